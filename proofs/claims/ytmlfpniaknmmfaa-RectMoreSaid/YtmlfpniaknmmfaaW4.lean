/- The walk of Value, of the reference of layer 39. -/
import Derived.Test.YtmlfpniaknmmfaaW3
namespace Go.Proofs.Ytmlfpniaknmmfaa
open Go Go.RowKit Go.Proofs.Gw
set_option linter.unusedVariables false

theorem cl_22 : calledT Try.prog 22 = true := by kernel_rfl
theorem cl_26 : calledT Try.prog 26 = true := by kernel_rfl
theorem fd_28_0 : fieldT Try.prog 28 0 = some 0 := by kernel_rfl
theorem fd_28_1 : fieldT Try.prog 28 1 = some 2 := by kernel_rfl
set_option maxRecDepth 20000 in
theorem c_rValue {x : Crt} {vD : Value} {d : Dem} {s : Sht} (w0 : World) (hD : DAt w0 vD d.n d.W d.H d.N) (hs : (-9223372036854775808 ≤ s.w ∧ s.w ≤ 9223372036854775807) ∧ (-9223372036854775808 ≤ s.h ∧ s.h ≤ 9223372036854775807) ∧ (-9223372036854775808 ≤ s.kf ∧ s.kf ≤ 9223372036854775807)) (hx : (-9223372036854775808 ≤ x.a ∧ x.a ≤ 9223372036854775807) ∧ (-9223372036854775808 ≤ x.p ∧ x.p ≤ 9223372036854775807) ∧ (-9223372036854775808 ≤ x.b ∧ x.b ≤ 9223372036854775807) ∧ (-9223372036854775808 ≤ x.q ∧ x.q ≤ 9223372036854775807)) :
    Calls Try.prog 15 [.agg #[.int .i64 x.a, .int .i64 x.p, .int .i64 x.b, .int .i64 x.q], vD, .int .i64 s.w, .int .i64 s.h, .int .i64 s.kf].toArray w0 fun e w => ∃ v, e = .returned v ∧ ∃ a e, v = .tuple #[.int .i64 a, .int .i64 e] ∧ ValueR x d s a e ∧ Sat w0 w [] := by
  have hn := hD.row.slh.n0
  refine enterS (vs := [.agg #[.int .i64 x.a, .int .i64 x.p, .int .i64 x.b, .int .i64 x.q], vD, .int .i64 s.w, .int .i64 s.h, .int .i64 s.kf]) Try.func15 rfl Try.ntmps15 rfl ?_
  intro a w hS hF
  refine cw_seq ?_
  refine wp_region_lit ?_
  refine ls_any hF (.free rfl) rfl rfl (ex_box (cs := [.int .i64 x.a, .int .i64 x.p, .int .i64 x.b, .int .i64 x.q]) rfl hS rfl rfl) ?_; clear hF; rintro _ w ⟨g1, rfl, hS⟩ a hF
  replace hS : Sat w0 w [.blk g1 [.int .i64 x.a, .int .i64 x.p, .int .i64 x.b, .int .i64 x.q]] := hS
  refine ls_val hF (.free rfl) rfl rfl (ex_assign rfl rfl) ?_; clear hF a; intro a hF
  refine ls_val hF (.free rfl) rfl rfl (ex_assign rfl rfl) ?_; clear hF a; intro a hF
  refine ls_nil ?_
  refine then_normal ?_
  refine cw_seq ?_
  refine cw_seq ?_
  refine wp_region_lit ?_
  refine ls_val hF (.free rfl) rfl rfl (ex_move rfl rfl) ?_; clear hF a; intro a hF
  refine ls_val hF (.free rfl) rfl rfl (ex_move rfl rfl) ?_; clear hF a; intro a hF
  refine ls_val hF (.free rfl) rfl rfl (ex_move rfl rfl) ?_; clear hF a; intro a hF
  refine ls_val hF (.free rfl) rfl rfl (ex_move rfl rfl) ?_; clear hF a; intro a hF
  refine ls_call hF (.free rfl) rfl rfl (ex_call0 rfl rfl cl_26 (args_cons rfl (args_cons rfl (args_cons rfl (args_cons rfl args0))))) (c_problem (s := s) w (hD.below hS.below) hs) ?_; clear hF; rintro _ w ⟨rfl, hS'⟩ a hF
  replace hS : Sat w0 w [.blk g1 [.int .i64 x.a, .int .i64 x.p, .int .i64 x.b, .int .i64 x.q]] := hS.comp hS'; clear hS'
  refine ls_val hF (.free rfl) rfl rfl (ex_not rfl rfl) ?_; clear hF a; intro a hF
  refine ls_val hF (.free rfl) rfl rfl (ex_move rfl rfl) ?_; clear hF a; intro a hF
  refine by_slot hF (d := 29) rfl ?_ ?_ <;> clear hF <;> intro hc hF
  ·
   refine ls_off hF (.on rfl rfl rfl rfl rfl) rfl rfl ?_; clear hF a; intro a hF
   refine ls_off hF (.on rfl rfl rfl rfl rfl) rfl rfl ?_; clear hF a; intro a hF
   refine ls_off hF (.on rfl rfl rfl rfl rfl) rfl rfl ?_; clear hF a; intro a hF
   refine ls_off hF (.on rfl rfl rfl rfl rfl) rfl rfl ?_; clear hF a; intro a hF
   refine ls_off hF (.on rfl rfl rfl rfl rfl) rfl rfl ?_; clear hF a; intro a hF
   refine ls_off hF (.on rfl rfl rfl rfl rfl) rfl rfl ?_; clear hF a; intro a hF
   refine ls_off hF (.on rfl rfl rfl rfl rfl) rfl rfl ?_; clear hF a; intro a hF
   refine ls_val hF (.free rfl) rfl rfl (ex_pick_t rfl rfl rfl) ?_; clear hF a; intro a hF
   refine ls_val hF (.free rfl) rfl rfl (ex_move rfl rfl) ?_; clear hF a; intro a hF
   refine ls_off hF (.on rfl rfl rfl rfl rfl) rfl rfl ?_; clear hF a; intro a hF
   refine ls_off hF (.on rfl rfl rfl rfl rfl) rfl rfl ?_; clear hF a; intro a hF
   refine ls_off hF (.on rfl rfl rfl rfl rfl) rfl rfl ?_; clear hF a; intro a hF
   refine ls_off hF (.on rfl rfl rfl rfl rfl) rfl rfl ?_; clear hF a; intro a hF
   refine ls_off hF (.on rfl rfl rfl rfl rfl) rfl rfl ?_; clear hF a; intro a hF
   refine ls_off hF (.on rfl rfl rfl rfl rfl) rfl rfl ?_; clear hF a; intro a hF
   refine ls_off hF (.on rfl rfl rfl rfl rfl) rfl rfl ?_; clear hF a; intro a hF
   refine ls_val hF (.free rfl) rfl rfl (ex_pick_t rfl rfl rfl) ?_; clear hF a; intro a hF
   refine ls_nil ?_
   refine then_normal ?_
   refine cw_t hF rfl ?_
   refine cw_seq ?_
   refine wp_region_lit ?_
   refine ls_val hF (.free rfl) rfl rfl (ex_assign rfl rfl) ?_; clear hF a; intro a hF
   refine ls_val hF (.free rfl) rfl rfl (ex_assign rfl rfl) ?_; clear hF a; intro a hF
   refine ls_nil ?_
   refine then_normal ?_
   refine wp_ret ?_
   refine then_ret ((fin2 hF rfl rfl rfl ⟨_, rfl, ?_⟩))
   exact ⟨_, _, rfl, .inl ⟨fun hh => by first | exact absurd hh.2.1 ‹_› | exact absurd hh.2.2 ‹_› | exact absurd hh.1 ‹_›, rfl, rfl⟩, hS.sub (.cons _ .slnil)⟩
  ·
   refine ls_val hF (.on rfl rfl rfl rfl rfl) rfl rfl (ex_field (b := ⟨g1, 0, none⟩) rfl fd_28_0 rfl rfl) ?_; clear hF a; intro a hF
   have hk : DOk d s := (Classical.not_not.1 ‹¬ ¬ (DOk d s)›)
   have b2 := hk.w1
   have b3 := hk.w2
   have b4 := hk.h1
   have b5 := hk.h2
   have b6 := hk.k1
   have b7 := hk.k2
   have b8 := hk.few
   refine ls_val hF (.on rfl rfl rfl rfl rfl) rfl rfl (ex_loads_part 0 rfl st_26 rfl hS rfl rfl rfl) ?_; clear hF a; intro a hF
   refine ls_val hF (.on rfl rfl rfl rfl rfl) rfl rfl (ex_move rfl rfl) ?_; clear hF a; intro a hF
   refine ls_val hF (.on rfl rfl rfl rfl rfl) rfl rfl (ex_move rfl rfl) ?_; clear hF a; intro a hF
   refine ls_val hF (.on rfl rfl rfl rfl rfl) rfl rfl (ex_add (r := s.w + s.kf) rfl rfl rfl (by omega) (by unfold I64; omega)) ?_; clear hF a; intro a hF
   refine ls_call hF (.on rfl rfl rfl rfl rfl) rfl rfl (ex_call0 rfl rfl cl_27 (args_cons rfl (args_cons rfl args0))) (c_rvalid (kind := x.a) (k := x.p) (c := (s.w + s.kf)) w (by omega) (by omega)) ?_; clear hF; rintro _ w ⟨rfl, hS'⟩ a hF
   replace hS : Sat w0 w [.blk g1 [.int .i64 x.a, .int .i64 x.p, .int .i64 x.b, .int .i64 x.q]] := hS.comp hS'; clear hS'
   refine ls_val hF (.on rfl rfl rfl rfl rfl) rfl rfl (ex_not rfl rfl) ?_; clear hF a; intro a hF
   refine ls_val hF (.free rfl) rfl rfl (ex_pick_f rfl rfl rfl) ?_; clear hF a; intro a hF
   refine ls_val hF (.free rfl) rfl rfl (ex_move rfl rfl) ?_; clear hF a; intro a hF
   refine by_slot hF (d := 38) rfl ?_ ?_ <;> clear hF <;> intro hc hF
   ·
    refine ls_off hF (.on rfl rfl rfl rfl rfl) rfl rfl ?_; clear hF a; intro a hF
    refine ls_off hF (.on rfl rfl rfl rfl rfl) rfl rfl ?_; clear hF a; intro a hF
    refine ls_off hF (.on rfl rfl rfl rfl rfl) rfl rfl ?_; clear hF a; intro a hF
    refine ls_off hF (.on rfl rfl rfl rfl rfl) rfl rfl ?_; clear hF a; intro a hF
    refine ls_off hF (.on rfl rfl rfl rfl rfl) rfl rfl ?_; clear hF a; intro a hF
    refine ls_off hF (.on rfl rfl rfl rfl rfl) rfl rfl ?_; clear hF a; intro a hF
    refine ls_off hF (.on rfl rfl rfl rfl rfl) rfl rfl ?_; clear hF a; intro a hF
    refine ls_val hF (.free rfl) rfl rfl (ex_pick_t rfl rfl rfl) ?_; clear hF a; intro a hF
    refine ls_nil ?_
    refine then_normal ?_
    refine cw_t hF rfl ?_
    refine cw_seq ?_
    refine wp_region_lit ?_
    refine ls_val hF (.free rfl) rfl rfl (ex_assign rfl rfl) ?_; clear hF a; intro a hF
    refine ls_val hF (.free rfl) rfl rfl (ex_assign rfl rfl) ?_; clear hF a; intro a hF
    refine ls_nil ?_
    refine then_normal ?_
    refine wp_ret ?_
    refine then_ret ((fin2 hF rfl rfl rfl ⟨_, rfl, ?_⟩))
    exact ⟨_, _, rfl, .inl ⟨fun hh => by first | exact absurd hh.2.1 ‹_› | exact absurd hh.2.2 ‹_› | exact absurd hh.1 ‹_›, rfl, rfl⟩, hS.sub (.cons _ .slnil)⟩
   ·
    refine ls_val hF (.on rfl rfl rfl rfl rfl) rfl rfl (ex_field (b := ⟨g1, 2, none⟩) rfl fd_28_1 rfl rfl) ?_; clear hF a; intro a hF
    refine ls_val hF (.on rfl rfl rfl rfl rfl) rfl rfl (ex_loads_part 0 rfl st_26 rfl hS rfl rfl rfl) ?_; clear hF a; intro a hF
    refine ls_val hF (.on rfl rfl rfl rfl rfl) rfl rfl (ex_move rfl rfl) ?_; clear hF a; intro a hF
    refine ls_val hF (.on rfl rfl rfl rfl rfl) rfl rfl (ex_move rfl rfl) ?_; clear hF a; intro a hF
    refine ls_val hF (.on rfl rfl rfl rfl rfl) rfl rfl (ex_add (r := s.h + s.kf) rfl rfl rfl (by omega) (by unfold I64; omega)) ?_; clear hF a; intro a hF
    refine ls_call hF (.on rfl rfl rfl rfl rfl) rfl rfl (ex_call0 rfl rfl cl_27 (args_cons rfl (args_cons rfl args0))) (c_rvalid (kind := x.b) (k := x.q) (c := (s.h + s.kf)) w (by omega) (by omega)) ?_; clear hF; rintro _ w ⟨rfl, hS'⟩ a hF
    replace hS : Sat w0 w [.blk g1 [.int .i64 x.a, .int .i64 x.p, .int .i64 x.b, .int .i64 x.q]] := hS.comp hS'; clear hS'
    refine ls_val hF (.on rfl rfl rfl rfl rfl) rfl rfl (ex_not rfl rfl) ?_; clear hF a; intro a hF
    refine ls_val hF (.free rfl) rfl rfl (ex_pick_f rfl rfl rfl) ?_; clear hF a; intro a hF
    refine ls_nil ?_
    refine then_normal ?_
    refine cw_if hF rfl (fun hc => ?_) (fun hc => ?_)
    ·
     refine cw_seq ?_
     refine wp_region_lit ?_
     refine ls_val hF (.free rfl) rfl rfl (ex_assign rfl rfl) ?_; clear hF a; intro a hF
     refine ls_val hF (.free rfl) rfl rfl (ex_assign rfl rfl) ?_; clear hF a; intro a hF
     refine ls_nil ?_
     refine then_normal ?_
     refine wp_ret ?_
     refine then_ret ((fin2 hF rfl rfl rfl ⟨_, rfl, ?_⟩))
     exact ⟨_, _, rfl, .inl ⟨fun hh => by first | exact absurd hh.2.1 ‹_› | exact absurd hh.2.2 ‹_› | exact absurd hh.1 ‹_›, rfl, rfl⟩, hS.sub (.cons _ .slnil)⟩
    ·
     refine wp_skip ?_
     refine then_normal ?_
     refine cw_seq ?_
     refine wp_region_lit ?_
     refine ls_val hF (.free rfl) rfl rfl (ex_assign rfl rfl) ?_; clear hF a; intro a hF
     refine ls_nil ?_
     refine then_normal ?_
     refine cw_seq ?_
     refine cw_seq ?_
     refine wp_region_lit ?_
     refine ls_val hF (.free rfl) rfl rfl (ex_assign rfl rfl) ?_; clear hF a; intro a hF
     refine ls_nil ?_
     refine then_normal ?_
     refine wp_block ?_
     have hok : x.ok s := ⟨(Classical.not_not.1 ‹¬ ¬ (okF x.a x.p (s.w + s.kf))›), (Classical.not_not.1 ‹¬ ¬ (okF x.b x.q (s.h + s.kf))›)⟩
     refine cw_loop (fun mm a w => ∃ (t : Int) (i : Int), mm = ((d.n - i).toNat) ∧ (0 ≤ i) ∧ (i ≤ d.n) ∧ (t = x.sum d s i.toNat) ∧ (∀ k, 0 ≤ k → k < i → ¬ d.great s k) ∧ Fr a 138 [(1, vD), (2, .int .i64 s.w), (3, .int .i64 s.h), (4, .int .i64 s.kf), (5, .pointer (some ⟨g1, 0, none⟩)), (12, .int .i64 t), (13, .int .i64 i)] ∧ Sat w0 w [.blk g1 [.int .i64 x.a, .int .i64 x.p, .int .i64 x.b, .int .i64 x.q]]) ?_ ?_ (m := ((d.n - 0).toNat))
     ·
      refine ⟨0, 0, rfl, (by omega), (by omega), ?_, ?_, (hF.pick (hF.pick (hF.pick (hF.pick (hF.pick (hF.pick (hF.pick hF.nil 13 rfl) 12 rfl) 5 rfl) 4 rfl) 3 rfl) 2 rfl) 1 rfl), hS⟩
      ·
       rfl
      ·
       intro k k0 k1; omega
     ·
      clear hF hS a w
      rintro mm a w ⟨t, i, rfl, h0, h1, ht, hg, hF, hS⟩
      refine cw_seq ?_
      refine cw_seq ?_
      refine wp_region_lit ?_
      refine ls_val hF (.free rfl) rfl rfl (ex_move rfl rfl) ?_; clear hF a; intro a hF
      refine ls_val hF (.free rfl) rfl rfl (ex_move rfl rfl) ?_; clear hF a; intro a hF
      refine ls_val hF (.free rfl) rfl rfl (ex_len rfl sl_22 rfl hD.row.slh) ?_; clear hF a; intro a hF
      refine ls_val hF (.free rfl) rfl rfl (ex_lss rfl rfl rfl) ?_; clear hF a; intro a hF
      refine ls_nil ?_
      refine then_normal ?_
      refine cw_if hF rfl (fun hc => ?_) (fun hc => ?_)
      ·
       refine wp_skip ?_
       refine then_normal ?_
       refine cw_seq ?_
       refine wp_block ?_
       refine cw_seq ?_
       refine wp_region_lit ?_
       refine ls_val hF (.free rfl) rfl rfl (ex_move rfl rfl) ?_; clear hF a; intro a hF
       refine ls_val hF (.free rfl) rfl rfl (ex_move rfl rfl) ?_; clear hF a; intro a hF
       refine ls_val hF (.free rfl) rfl rfl (ex_index (k := 3 * i) rfl sl_22 rfl rfl hD.row.slh (by omega) (by omega) (by omega)) ?_; clear hF a; intro a hF
       refine ls_val hF (.free rfl) rfl rfl (ex_loads_row (cs := [.int .i64 (d.W i), .int .i64 (d.H i), .int .i64 (d.N i)]) rfl st_62 rfl (hD.row.below hS.below) (by omega) (by omega) rfl (by omega) (dcells_at d.W d.H d.N (by omega))) ?_; clear hF a; intro a hF
       have hbv := hD.bw i
       have hbv := hD.bh i
       have hbv := hD.bn i
       refine ls_any hF (.free rfl) rfl rfl (ex_alloc (cs := [.int .i64 0, .int .i64 0, .int .i64 0]) rfl el_62 hS rfl) ?_; clear hF; rintro _ w ⟨g2, rfl, hS⟩ a hF
       replace hS : Sat w0 w [.blk g1 [.int .i64 x.a, .int .i64 x.p, .int .i64 x.b, .int .i64 x.q], .blk g2 [.int .i64 0, .int .i64 0, .int .i64 0]] := hS
       refine ls_effx hF (.free rfl) rfl (st_blks 1 (ds := [.int .i64 (d.W i), .int .i64 (d.H i), .int .i64 (d.N i)]) rfl st_62 hS rfl rfl rfl rfl (ones_cons rfl (ones_cons rfl (ones_cons rfl ones_nil)))) ?_; clear hS; rintro w hS
       replace hS : Sat w0 w [.blk g1 [.int .i64 x.a, .int .i64 x.p, .int .i64 x.b, .int .i64 x.q], .blk g2 [.int .i64 (d.W i), .int .i64 (d.H i), .int .i64 (d.N i)]] := hS
       refine ls_nil ?_
       refine then_normal ?_
       refine cw_seq ?_
       refine cw_seq ?_
       refine wp_region_lit ?_
       refine ls_val hF (.free rfl) rfl rfl (ex_field (b := ⟨g2, 2, none⟩) rfl fd_62_2 rfl rfl) ?_; clear hF a; intro a hF
       refine ls_val hF (.free rfl) rfl rfl (ex_load_blk 1 rfl pl_3 rfl hS rfl rfl) ?_; clear hF a; intro a hF
       refine ls_val hF (.free rfl) rfl rfl (ex_eql rfl rfl rfl) ?_; clear hF a; intro a hF
       refine ls_nil ?_
       refine then_normal ?_
       refine cw_if hF rfl (fun hc => ?_) (fun hc => ?_)
       ·
        refine wp_exit ?_
        refine then_exit ?_
        refine inb_hit ?_
        refine then_normal ?_
        refine wp_region_lit ?_
        refine ls_val hF (.free rfl) rfl rfl (ex_move rfl rfl) ?_; clear hF a; intro a hF
        refine ls_val hF (.free rfl) rfl rfl (ex_add (r := i + 1) rfl rfl rfl (by omega) (by unfold I64; omega)) ?_; clear hF a; intro a hF
        refine ls_val hF (.free rfl) rfl rfl (ex_assign rfl rfl) ?_; clear hF a; intro a hF
        refine ls_nil ?_
        refine then_normal ?_
        refine ⟨_, (by omega), t, i + 1, rfl, (by omega), (by omega), ?_, ?_, (hF.pick (hF.pick (hF.pick (hF.pick (hF.pick (hF.pick (hF.pick hF.nil 13 rfl) 12 rfl) 5 rfl) 4 rfl) 3 rfl) 2 rfl) 1 rfl), hS.sub (.cons_cons _ (.cons _ .slnil))⟩
        ·
         rw [sum_next x d s h0, ← ht, term_zero hk h0 (by omega) (by omega)]; omega
        ·
         intro k k0 k1; rcases Int.lt_or_eq_of_le (show k ≤ i by omega) with hh | hh; exact hg k k0 hh; rw [hh]; unfold Dem.great; omega
       ·
        refine wp_skip ?_
        refine then_normal ?_
        refine cw_seq ?_
        refine cw_seq ?_
        refine wp_region_lit ?_
        refine ls_val hF (.free rfl) rfl rfl (ex_field (b := ⟨g2, 0, none⟩) rfl fd_62_0 rfl rfl) ?_; clear hF a; intro a hF
        have hei := hk.all i h0 (by omega); unfold Dem.each at hei
        refine ls_val hF (.free rfl) rfl rfl (ex_load_blk 1 rfl pl_3 rfl hS rfl rfl) ?_; clear hF a; intro a hF
        refine ls_val hF (.free rfl) rfl rfl (ex_move rfl rfl) ?_; clear hF a; intro a hF
        refine ls_val hF (.free rfl) rfl rfl (ex_gtr rfl rfl rfl) ?_; clear hF a; intro a hF
        refine ls_val hF (.free rfl) rfl rfl (ex_move rfl rfl) ?_; clear hF a; intro a hF
        refine by_slot hF (d := 64) rfl ?_ ?_ <;> clear hF <;> intro hc hF
        ·
         refine ls_off hF (.on rfl rfl rfl rfl rfl) rfl rfl ?_; clear hF a; intro a hF
         refine ls_off hF (.on rfl rfl rfl rfl rfl) rfl rfl ?_; clear hF a; intro a hF
         refine ls_off hF (.on rfl rfl rfl rfl rfl) rfl rfl ?_; clear hF a; intro a hF
         refine ls_off hF (.on rfl rfl rfl rfl rfl) rfl rfl ?_; clear hF a; intro a hF
         refine ls_val hF (.free rfl) rfl rfl (ex_pick_t rfl rfl rfl) ?_; clear hF a; intro a hF
         refine ls_nil ?_
         refine then_normal ?_
         refine cw_t hF rfl ?_
         refine cw_seq ?_
         refine wp_region_lit ?_
         refine ls_val hF (.free rfl) rfl rfl (ex_assign rfl rfl) ?_; clear hF a; intro a hF
         refine ls_val hF (.free rfl) rfl rfl (ex_assign rfl rfl) ?_; clear hF a; intro a hF
         refine ls_nil ?_
         refine then_normal ?_
         refine wp_ret ?_
         refine then_ret (inb_ret (then_ret (then_ret (inb_ret (then_ret ((fin2 hF rfl rfl rfl ⟨_, rfl, ?_⟩)))))))
         exact ⟨_, _, rfl, .inr (.inl ⟨hk, hok, ⟨i, h0, by omega, by unfold Dem.great; omega⟩, rfl, rfl⟩), hS.sub (.cons _ (.cons _ .slnil))⟩
        ·
         refine ls_val hF (.on rfl rfl rfl rfl rfl) rfl rfl (ex_field (b := ⟨g2, 1, none⟩) rfl fd_62_1 rfl rfl) ?_; clear hF a; intro a hF
         refine ls_val hF (.on rfl rfl rfl rfl rfl) rfl rfl (ex_load_blk 1 rfl pl_3 rfl hS rfl rfl) ?_; clear hF a; intro a hF
         refine ls_val hF (.on rfl rfl rfl rfl rfl) rfl rfl (ex_move rfl rfl) ?_; clear hF a; intro a hF
         refine ls_val hF (.on rfl rfl rfl rfl rfl) rfl rfl (ex_gtr rfl rfl rfl) ?_; clear hF a; intro a hF
         refine ls_val hF (.free rfl) rfl rfl (ex_pick_f rfl rfl rfl) ?_; clear hF a; intro a hF
         refine ls_nil ?_
         refine then_normal ?_
         refine cw_if hF rfl (fun hc => ?_) (fun hc => ?_)
         ·
          refine cw_seq ?_
          refine wp_region_lit ?_
          refine ls_val hF (.free rfl) rfl rfl (ex_assign rfl rfl) ?_; clear hF a; intro a hF
          refine ls_val hF (.free rfl) rfl rfl (ex_assign rfl rfl) ?_; clear hF a; intro a hF
          refine ls_nil ?_
          refine then_normal ?_
          refine wp_ret ?_
          refine then_ret (inb_ret (then_ret (then_ret (inb_ret (then_ret ((fin2 hF rfl rfl rfl ⟨_, rfl, ?_⟩)))))))
          exact ⟨_, _, rfl, .inr (.inl ⟨hk, hok, ⟨i, h0, by omega, by unfold Dem.great; omega⟩, rfl, rfl⟩), hS.sub (.cons _ (.cons _ .slnil))⟩
         ·
          refine wp_skip ?_
          refine then_normal ?_
          refine cw_seq ?_
          refine wp_region_lit ?_
          refine ls_val hF (.free rfl) rfl rfl (ex_field (b := ⟨g1, 0, none⟩) rfl fd_28_0 rfl rfl) ?_; clear hF a; intro a hF
          have hei := hk.all i h0 (by omega); unfold Dem.each at hei; have hgi : ¬ d.great s i := by unfold Dem.great; omega
          have hti := term_bd hk hok h0 (by omega) (by omega) hgi; unfold Crt.term Crt.f Crt.g at hti; have hsb := sum_bd hk hok h0 (by omega : i ≤ d.n) hg
          refine ls_val hF (.free rfl) rfl rfl (ex_loads_part 0 rfl st_26 rfl hS rfl rfl rfl) ?_; clear hF a; intro a hF
          refine ls_val hF (.free rfl) rfl rfl (ex_field (b := ⟨g2, 0, none⟩) rfl fd_62_0 rfl rfl) ?_; clear hF a; intro a hF
          refine ls_val hF (.free rfl) rfl rfl (ex_load_blk 1 rfl pl_3 rfl hS rfl rfl) ?_; clear hF a; intro a hF
          refine ls_val hF (.free rfl) rfl rfl (ex_move rfl rfl) ?_; clear hF a; intro a hF
          refine ls_val hF (.free rfl) rfl rfl (ex_add (r := (d.W i) + s.kf) rfl rfl rfl (by omega) (by unfold I64; omega)) ?_; clear hF a; intro a hF
          refine ls_val hF (.free rfl) rfl rfl (ex_move rfl rfl) ?_; clear hF a; intro a hF
          refine ls_val hF (.free rfl) rfl rfl (ex_move rfl rfl) ?_; clear hF a; intro a hF
          refine ls_val hF (.free rfl) rfl rfl (ex_add (r := s.w + s.kf) rfl rfl rfl (by omega) (by unfold I64; omega)) ?_; clear hF a; intro a hF
          refine ls_call hF (.free rfl) rfl rfl (ex_call0 rfl rfl cl_22 (args_cons rfl (args_cons rfl (args_cons rfl args0)))) (c_rapply (kind := x.a) (k := x.p) (x := ((d.W i) + s.kf)) (c := (s.w + s.kf)) w (by omega) (by omega)) ?_; clear hF; rintro _ w ⟨ap1, ep1, rfl, hrp1, hS'⟩ a hF
          replace hS : Sat w0 w [.blk g1 [.int .i64 x.a, .int .i64 x.p, .int .i64 x.b, .int .i64 x.q], .blk g2 [.int .i64 (d.W i), .int .i64 (d.H i), .int .i64 (d.N i)]] := hS.comp hS'; clear hS'
          have hvp1 := hrp1.val (by omega) (by omega) hok.1 (by omega) (by omega)
          refine ls_val hF (.free rfl) rfl rfl (ex_move rfl rfl) ?_; clear hF a; intro a hF
          refine ls_val hF (.free rfl) rfl rfl (ex_extract rfl rfl rfl) ?_; clear hF a; intro a hF
          refine ls_val hF (.free rfl) rfl rfl (ex_extract rfl rfl rfl) ?_; clear hF a; intro a hF
          refine ls_val hF (.free rfl) rfl rfl (ex_assign rfl rfl) ?_; clear hF a; intro a hF
          refine ls_val hF (.free rfl) rfl rfl (ex_assign rfl rfl) ?_; clear hF a; intro a hF
          refine ls_nil ?_
          refine then_normal ?_
          refine cw_seq ?_
          refine wp_region_lit ?_
          refine ls_val hF (.free rfl) rfl rfl (ex_field (b := ⟨g1, 2, none⟩) rfl fd_28_1 rfl rfl) ?_; clear hF a; intro a hF
          refine ls_val hF (.free rfl) rfl rfl (ex_loads_part 0 rfl st_26 rfl hS rfl rfl rfl) ?_; clear hF a; intro a hF
          refine ls_val hF (.free rfl) rfl rfl (ex_field (b := ⟨g2, 1, none⟩) rfl fd_62_1 rfl rfl) ?_; clear hF a; intro a hF
          refine ls_val hF (.free rfl) rfl rfl (ex_load_blk 1 rfl pl_3 rfl hS rfl rfl) ?_; clear hF a; intro a hF
          refine ls_val hF (.free rfl) rfl rfl (ex_move rfl rfl) ?_; clear hF a; intro a hF
          refine ls_val hF (.free rfl) rfl rfl (ex_add (r := (d.H i) + s.kf) rfl rfl rfl (by omega) (by unfold I64; omega)) ?_; clear hF a; intro a hF
          refine ls_val hF (.free rfl) rfl rfl (ex_move rfl rfl) ?_; clear hF a; intro a hF
          refine ls_val hF (.free rfl) rfl rfl (ex_move rfl rfl) ?_; clear hF a; intro a hF
          refine ls_val hF (.free rfl) rfl rfl (ex_add (r := s.h + s.kf) rfl rfl rfl (by omega) (by unfold I64; omega)) ?_; clear hF a; intro a hF
          refine ls_call hF (.free rfl) rfl rfl (ex_call0 rfl rfl cl_22 (args_cons rfl (args_cons rfl (args_cons rfl args0)))) (c_rapply (kind := x.b) (k := x.q) (x := ((d.H i) + s.kf)) (c := (s.h + s.kf)) w (by omega) (by omega)) ?_; clear hF; rintro _ w ⟨ap2, ep2, rfl, hrp2, hS'⟩ a hF
          replace hS : Sat w0 w [.blk g1 [.int .i64 x.a, .int .i64 x.p, .int .i64 x.b, .int .i64 x.q], .blk g2 [.int .i64 (d.W i), .int .i64 (d.H i), .int .i64 (d.N i)]] := hS.comp hS'; clear hS'
          have hvp2 := hrp2.val (by omega) (by omega) hok.2 (by omega) (by omega)
          have hm1 := hti; rw [← hvp1, ← hvp2] at hm1
          refine ls_val hF (.free rfl) rfl rfl (ex_move rfl rfl) ?_; clear hF a; intro a hF
          refine ls_val hF (.free rfl) rfl rfl (ex_extract rfl rfl rfl) ?_; clear hF a; intro a hF
          refine ls_val hF (.free rfl) rfl rfl (ex_extract rfl rfl rfl) ?_; clear hF a; intro a hF
          refine ls_val hF (.free rfl) rfl rfl (ex_assign rfl rfl) ?_; clear hF a; intro a hF
          refine ls_val hF (.free rfl) rfl rfl (ex_assign rfl rfl) ?_; clear hF a; intro a hF
          refine ls_nil ?_
          refine then_normal ?_
          refine wp_region_lit ?_
          refine ls_val hF (.free rfl) rfl rfl (ex_move rfl rfl) ?_; clear hF a; intro a hF
          refine ls_val hF (.free rfl) rfl rfl (ex_field (b := ⟨g2, 2, none⟩) rfl fd_62_2 rfl rfl) ?_; clear hF a; intro a hF
          refine ls_val hF (.free rfl) rfl rfl (ex_load_blk 1 rfl pl_3 rfl hS rfl rfl) ?_; clear hF a; intro a hF
          refine ls_val hF (.free rfl) rfl rfl (ex_move rfl rfl) ?_; clear hF a; intro a hF
          refine ls_val hF (.free rfl) rfl rfl (ex_mul (r := ((d.N i) * ap1)) rfl rfl rfl rfl (by unfold I64; omega)) ?_; clear hF a; intro a hF
          refine ls_val hF (.free rfl) rfl rfl (ex_move rfl rfl) ?_; clear hF a; intro a hF
          refine ls_val hF (.free rfl) rfl rfl (ex_mul (r := (((d.N i) * ap1) * ap2)) rfl rfl rfl rfl (by unfold I64; omega)) ?_; clear hF a; intro a hF
          refine ls_val hF (.free rfl) rfl rfl (ex_add (r := t + (((d.N i) * ap1) * ap2)) rfl rfl rfl (by omega) (by unfold I64; omega)) ?_; clear hF a; intro a hF
          refine ls_val hF (.free rfl) rfl rfl (ex_assign rfl rfl) ?_; clear hF a; intro a hF
          refine ls_nil ?_
          refine inb_normal ?_
          refine then_normal ?_
          refine wp_region_lit ?_
          refine ls_val hF (.free rfl) rfl rfl (ex_move rfl rfl) ?_; clear hF a; intro a hF
          refine ls_val hF (.free rfl) rfl rfl (ex_add (r := i + 1) rfl rfl rfl (by omega) (by unfold I64; omega)) ?_; clear hF a; intro a hF
          refine ls_val hF (.free rfl) rfl rfl (ex_assign rfl rfl) ?_; clear hF a; intro a hF
          refine ls_nil ?_
          refine then_normal ?_
          refine ⟨_, (by omega), t + (((d.N i) * ap1) * ap2), i + 1, rfl, (by omega), (by omega), ?_, ?_, (hF.pick (hF.pick (hF.pick (hF.pick (hF.pick (hF.pick (hF.pick hF.nil 13 rfl) 12 rfl) 5 rfl) 4 rfl) 3 rfl) 2 rfl) 1 rfl), hS.sub (.cons_cons _ (.cons _ .slnil))⟩
          ·
           rw [sum_next x d s h0, ← ht, hvp1, hvp2]; rfl
          ·
           intro k k0 k1; rcases Int.lt_or_eq_of_le (show k ≤ i by omega) with hh | hh; exact hg k k0 hh; rw [hh]; unfold Dem.great; omega
      ·
       refine wp_exit ?_
       refine then_exit ?_
       refine then_exit ?_
       refine inb_hit ?_
       refine then_normal ?_
       refine cw_seq ?_
       refine wp_region_lit ?_
       refine ls_val hF (.free rfl) rfl rfl (ex_field (b := ⟨g1, 0, none⟩) rfl fd_28_0 rfl rfl) ?_; clear hF a; intro a hF
       have htp := top_bd hk hok; unfold Crt.top Crt.f Crt.g at htp; have hsb := sum_bd hk hok h0 (by omega : i ≤ d.n) hg
       refine ls_val hF (.free rfl) rfl rfl (ex_loads_part 0 rfl st_26 rfl hS rfl rfl rfl) ?_; clear hF a; intro a hF
       refine ls_val hF (.free rfl) rfl rfl (ex_move rfl rfl) ?_; clear hF a; intro a hF
       refine ls_val hF (.free rfl) rfl rfl (ex_move rfl rfl) ?_; clear hF a; intro a hF
       refine ls_val hF (.free rfl) rfl rfl (ex_add (r := s.w + s.kf) rfl rfl rfl (by omega) (by unfold I64; omega)) ?_; clear hF a; intro a hF
       refine ls_val hF (.free rfl) rfl rfl (ex_move rfl rfl) ?_; clear hF a; intro a hF
       refine ls_val hF (.free rfl) rfl rfl (ex_move rfl rfl) ?_; clear hF a; intro a hF
       refine ls_val hF (.free rfl) rfl rfl (ex_add (r := s.w + s.kf) rfl rfl rfl (by omega) (by unfold I64; omega)) ?_; clear hF a; intro a hF
       refine ls_call hF (.free rfl) rfl rfl (ex_call0 rfl rfl cl_22 (args_cons rfl (args_cons rfl (args_cons rfl args0)))) (c_rapply (kind := x.a) (k := x.p) (x := (s.w + s.kf)) (c := (s.w + s.kf)) w (by omega) (by omega)) ?_; clear hF; rintro _ w ⟨ap3, ep3, rfl, hrp3, hS'⟩ a hF
       replace hS : Sat w0 w [.blk g1 [.int .i64 x.a, .int .i64 x.p, .int .i64 x.b, .int .i64 x.q]] := hS.comp hS'; clear hS'
       have hvp3 := hrp3.val (by omega) (by omega) hok.1 (by omega) (by omega)
       refine ls_val hF (.free rfl) rfl rfl (ex_move rfl rfl) ?_; clear hF a; intro a hF
       refine ls_val hF (.free rfl) rfl rfl (ex_extract rfl rfl rfl) ?_; clear hF a; intro a hF
       refine ls_val hF (.free rfl) rfl rfl (ex_extract rfl rfl rfl) ?_; clear hF a; intro a hF
       refine ls_val hF (.free rfl) rfl rfl (ex_assign rfl rfl) ?_; clear hF a; intro a hF
       refine ls_val hF (.free rfl) rfl rfl (ex_assign rfl rfl) ?_; clear hF a; intro a hF
       refine ls_nil ?_
       refine then_normal ?_
       refine cw_seq ?_
       refine wp_region_lit ?_
       refine ls_val hF (.free rfl) rfl rfl (ex_field (b := ⟨g1, 2, none⟩) rfl fd_28_1 rfl rfl) ?_; clear hF a; intro a hF
       refine ls_val hF (.free rfl) rfl rfl (ex_loads_part 0 rfl st_26 rfl hS rfl rfl rfl) ?_; clear hF a; intro a hF
       refine ls_val hF (.free rfl) rfl rfl (ex_move rfl rfl) ?_; clear hF a; intro a hF
       refine ls_val hF (.free rfl) rfl rfl (ex_move rfl rfl) ?_; clear hF a; intro a hF
       refine ls_val hF (.free rfl) rfl rfl (ex_add (r := s.h + s.kf) rfl rfl rfl (by omega) (by unfold I64; omega)) ?_; clear hF a; intro a hF
       refine ls_val hF (.free rfl) rfl rfl (ex_move rfl rfl) ?_; clear hF a; intro a hF
       refine ls_val hF (.free rfl) rfl rfl (ex_move rfl rfl) ?_; clear hF a; intro a hF
       refine ls_val hF (.free rfl) rfl rfl (ex_add (r := s.h + s.kf) rfl rfl rfl (by omega) (by unfold I64; omega)) ?_; clear hF a; intro a hF
       refine ls_call hF (.free rfl) rfl rfl (ex_call0 rfl rfl cl_22 (args_cons rfl (args_cons rfl (args_cons rfl args0)))) (c_rapply (kind := x.b) (k := x.q) (x := (s.h + s.kf)) (c := (s.h + s.kf)) w (by omega) (by omega)) ?_; clear hF; rintro _ w ⟨ap4, ep4, rfl, hrp4, hS'⟩ a hF
       replace hS : Sat w0 w [.blk g1 [.int .i64 x.a, .int .i64 x.p, .int .i64 x.b, .int .i64 x.q]] := hS.comp hS'; clear hS'
       have hvp4 := hrp4.val (by omega) (by omega) hok.2 (by omega) (by omega)
       rw [← hvp3, ← hvp4] at htp
       have hqf := quo_facts (a := t + ap3 * ap4 - 1) (b := ap3 * ap4) (by omega) (by omega)
       refine ls_val hF (.free rfl) rfl rfl (ex_move rfl rfl) ?_; clear hF a; intro a hF
       refine ls_val hF (.free rfl) rfl rfl (ex_extract rfl rfl rfl) ?_; clear hF a; intro a hF
       refine ls_val hF (.free rfl) rfl rfl (ex_extract rfl rfl rfl) ?_; clear hF a; intro a hF
       refine ls_val hF (.free rfl) rfl rfl (ex_assign rfl rfl) ?_; clear hF a; intro a hF
       refine ls_val hF (.free rfl) rfl rfl (ex_assign rfl rfl) ?_; clear hF a; intro a hF
       refine ls_nil ?_
       refine then_normal ?_
       refine cw_seq ?_
       refine wp_region_lit ?_
       refine ls_val hF (.free rfl) rfl rfl (ex_move rfl rfl) ?_; clear hF a; intro a hF
       refine ls_val hF (.free rfl) rfl rfl (ex_move rfl rfl) ?_; clear hF a; intro a hF
       refine ls_val hF (.free rfl) rfl rfl (ex_move rfl rfl) ?_; clear hF a; intro a hF
       refine ls_val hF (.free rfl) rfl rfl (ex_mul (r := (ap3 * ap4)) rfl rfl rfl rfl (by unfold I64; omega)) ?_; clear hF a; intro a hF
       refine ls_val hF (.free rfl) rfl rfl (ex_add (r := t + (ap3 * ap4)) rfl rfl rfl (by omega) (by unfold I64; omega)) ?_; clear hF a; intro a hF
       refine ls_val hF (.free rfl) rfl rfl (ex_sub (r := t + (ap3 * ap4) - 1) rfl rfl rfl (by omega) (by unfold I64; omega)) ?_; clear hF a; intro a hF
       refine ls_val hF (.free rfl) rfl rfl (ex_move rfl rfl) ?_; clear hF a; intro a hF
       refine ls_val hF (.free rfl) rfl rfl (ex_move rfl rfl) ?_; clear hF a; intro a hF
       refine ls_val hF (.free rfl) rfl rfl (ex_mul (r := (ap3 * ap4)) rfl rfl rfl rfl (by unfold I64; omega)) ?_; clear hF a; intro a hF
       refine ls_val hF (.free rfl) rfl rfl (ex_quo (r := (Int.tdiv (t + (ap3 * ap4) - 1) (ap3 * ap4))) rfl rfl rfl (by omega) rfl (by unfold I64; omega)) ?_; clear hF a; intro a hF
       refine ls_val hF (.free rfl) rfl rfl (ex_assign rfl rfl) ?_; clear hF a; intro a hF
       refine ls_val hF (.free rfl) rfl rfl (ex_assign rfl rfl) ?_; clear hF a; intro a hF
       refine ls_nil ?_
       refine then_normal ?_
       refine wp_ret ?_
       refine (fin2 hF rfl rfl rfl ⟨_, rfl, ?_⟩)
       obtain rfl : i = d.n := by omega
       exact ⟨_, _, rfl, .inr (.inr ⟨hk, hok, fun ⟨k, k0, k1, k2⟩ => hg k k0 k1 k2, by unfold Crt.val; rw [← ht, hvp3, hvp4]; rfl, rfl⟩), hS.sub (.cons _ .slnil)⟩

end Go.Proofs.Ytmlfpniaknmmfaa
