/- The walk of Best, of the reference of layer 39. -/
import Derived.Test.YtmlfpniaknmmfaaW7
namespace Go.Proofs.Ytmlfpniaknmmfaa
open Go Go.RowKit Go.Proofs.Gw
set_option linter.unusedVariables false

theorem cl_15 : calledT Try.prog 15 = true := by kernel_rfl
theorem cl_29 : calledT Try.prog 29 = true := by kernel_rfl
theorem el_28 : elemT Try.prog 28 = some (.agg #[.int .i64 0, .int .i64 0, .int .i64 0, .int .i64 0], 4, 32) := by kernel_rfl
theorem st_28 : structT Try.prog 28 = some 4 := by kernel_rfl
set_option maxRecDepth 20000 in
theorem c_rBest {vD : Value} {d : Dem} {s : Sht} (w0 : World) (hD : DAt w0 vD d.n d.W d.H d.N) (hs : (-9223372036854775808 ≤ s.w ∧ s.w ≤ 9223372036854775807) ∧ (-9223372036854775808 ≤ s.h ∧ s.h ≤ 9223372036854775807) ∧ (-9223372036854775808 ≤ s.kf ∧ s.kf ≤ 9223372036854775807)) :
    Calls Try.prog 17 [vD, .int .i64 s.w, .int .i64 s.h, .int .i64 s.kf].toArray w0 fun e w => ∃ v, e = .returned v ∧ ∃ a fa fp fb fq e, v = .tuple #[.int .i64 a, .agg #[.int .i64 fa, .int .i64 fp, .int .i64 fb, .int .i64 fq], .int .i64 e] ∧ BestR d s a (fa, fp) (fb, fq) e ∧ Sat w0 w [] := by
  have hn := hD.row.slh.n0
  refine enterS (vs := [vD, .int .i64 s.w, .int .i64 s.h, .int .i64 s.kf]) Try.func17 rfl Try.ntmps17 rfl ?_
  intro a w hS hF
  refine cw_seq ?_
  refine wp_region_lit ?_
  refine ls_val hF (.free rfl) rfl rfl (ex_assign rfl rfl) ?_; clear hF a; intro a hF
  refine ls_any hF (.free rfl) rfl rfl (ex_alloc (cs := [.int .i64 0, .int .i64 0, .int .i64 0, .int .i64 0]) rfl el_28 hS rfl) ?_; clear hF; rintro _ w ⟨g1, rfl, hS⟩ a hF
  replace hS : Sat w0 w [.blk g1 [.int .i64 0, .int .i64 0, .int .i64 0, .int .i64 0]] := hS
  refine ls_val hF (.free rfl) rfl rfl (ex_assign rfl rfl) ?_; clear hF a; intro a hF
  refine ls_nil ?_
  refine then_normal ?_
  refine cw_seq ?_
  refine wp_region_lit ?_
  refine ls_val hF (.free rfl) rfl rfl (ex_any (w' := w) (r := .value (.agg #[.int .i64 0, .int .i64 0, .int .i64 0, .int .i64 0])) (by intro _ _ h; cases h) rfl (by kernel_rfl)) ?_; clear hF a; intro a hF
  refine ls_val hF (.free rfl) rfl rfl (ex_move rfl rfl) ?_; clear hF a; intro a hF
  refine ls_val hF (.free rfl) rfl rfl (ex_move rfl rfl) ?_; clear hF a; intro a hF
  refine ls_val hF (.free rfl) rfl rfl (ex_move rfl rfl) ?_; clear hF a; intro a hF
  refine ls_val hF (.free rfl) rfl rfl (ex_move rfl rfl) ?_; clear hF a; intro a hF
  refine ls_call hF (.free rfl) rfl rfl (ex_call0 rfl rfl cl_15 (args_cons rfl (args_cons rfl (args_cons rfl (args_cons rfl (args_cons rfl args0)))))) (c_rValue (x := ⟨0, 0, 0, 0⟩) (d := d) (s := s) w (hD.below hS.below) hs (by first | ((try dsimp only); omega) | exact crt_i64 (ok_of hcA hcB (hfA.at h0 (by omega)) (hfB.at j0 (by omega))) (by omega) (by omega) (by omega) (by omega))) ?_; clear hF; rintro _ w ⟨az1, ez1, rfl, hrz1, hS'⟩ a hF
  replace hS : Sat w0 w [.blk g1 [.int .i64 0, .int .i64 0, .int .i64 0, .int .i64 0]] := hS.comp hS'; clear hS'
  refine ls_val hF (.free rfl) rfl rfl (ex_move rfl rfl) ?_; clear hF a; intro a hF
  refine ls_val hF (.free rfl) rfl rfl (ex_extract rfl rfl rfl) ?_; clear hF a; intro a hF
  refine ls_val hF (.free rfl) rfl rfl (ex_extract rfl rfl rfl) ?_; clear hF a; intro a hF
  refine ls_val hF (.free rfl) rfl rfl (ex_assign rfl rfl) ?_; clear hF a; intro a hF
  refine ls_val hF (.free rfl) rfl rfl (ex_assign rfl rfl) ?_; clear hF a; intro a hF
  refine ls_nil ?_
  refine then_normal ?_
  refine cw_seq ?_
  refine cw_seq ?_
  refine wp_region_lit ?_
  refine ls_val hF (.free rfl) rfl rfl (ex_move rfl rfl) ?_; clear hF a; intro a hF
  refine ls_val hF (.free rfl) rfl rfl (ex_neq rfl rfl rfl) ?_; clear hF a; intro a hF
  refine ls_nil ?_
  refine then_normal ?_
  refine cw_if hF rfl (fun hc => ?_) (fun hc => ?_)
  ·
   refine cw_seq ?_
   refine wp_region_lit ?_
   refine ls_val hF (.free rfl) rfl rfl (ex_any (w' := w) (r := .value (.agg #[.int .i64 0, .int .i64 0, .int .i64 0, .int .i64 0])) (by intro _ _ h; cases h) rfl (by kernel_rfl)) ?_; clear hF a; intro a hF
   refine ls_val hF (.free rfl) rfl rfl (ex_move rfl rfl) ?_; clear hF a; intro a hF
   refine ls_val hF (.free rfl) rfl rfl (ex_assign rfl rfl) ?_; clear hF a; intro a hF
   refine ls_effx hF (.free rfl) rfl (st_blks 0 (ds := [.int .i64 0, .int .i64 0, .int .i64 0, .int .i64 0]) rfl st_28 hS rfl rfl rfl rfl (ones_cons rfl (ones_cons rfl (ones_cons rfl (ones_cons rfl ones_nil))))) ?_; clear hS; rintro w hS
   replace hS : Sat w0 w [.blk g1 [.int .i64 0, .int .i64 0, .int .i64 0, .int .i64 0]] := hS
   refine ls_val hF (.free rfl) rfl rfl (ex_assign rfl rfl) ?_; clear hF a; intro a hF
   refine ls_nil ?_
   refine then_normal ?_
   refine wp_ret ?_
   refine then_ret ((fin_tct 0 hF rfl rfl rfl rfl st_28 hS rfl rfl ⟨_, rfl, ?_⟩))
   rcases hrz1 with ⟨h1, h2, h3⟩ | ⟨h1, h2, h3, h4, h5⟩ | ⟨h1, h2, h3, h4, h5⟩
   · exact ⟨_, _, _, _, _, _, rfl, .inl ⟨fun hh => h1 ⟨hh, ok_plain s⟩, rfl, rfl, rfl, h3⟩, hS.sub (.cons _ .slnil)⟩
   · exact ⟨_, _, _, _, _, _, rfl, .inr (.inl ⟨h1, h3, rfl, rfl, rfl, h5⟩), hS.sub (.cons _ .slnil)⟩
   · omega
  ·
   refine wp_skip ?_
   refine then_normal ?_
   refine cw_seq ?_
   refine wp_region_lit ?_
   refine ls_val hF (.free rfl) rfl rfl (ex_assign rfl rfl) ?_; clear hF a; intro a hF
   refine ls_val hF (.free rfl) rfl rfl (ex_assign rfl rfl) ?_; clear hF a; intro a hF
   refine ls_nil ?_
   refine then_normal ?_
   refine cw_seq ?_
   refine cw_seq ?_
   refine wp_region_lit ?_
   refine ls_val hF (.free rfl) rfl rfl (ex_assign rfl rfl) ?_; clear hF a; intro a hF
   refine ls_nil ?_
   refine then_normal ?_
   refine wp_block ?_
   have hk : DOk d s := by rcases hrz1 with ⟨h1, h2, h3⟩ | ⟨h1, h2, h3, h4, h5⟩ | ⟨h1, h2, h3, h4, h5⟩; omega; exact h1; exact h1
   have hng : ¬ DGreat d s := by rcases hrz1 with ⟨h1, h2, h3⟩ | ⟨h1, h2, h3, h4, h5⟩ | ⟨h1, h2, h3, h4, h5⟩; omega; omega; exact h3
   have hv1 := hrz1.val hk (ok_plain s) hng
   have b2 := hk.w1
   have b3 := hk.w2
   have b4 := hk.h1
   have b5 := hk.h2
   have b6 := hk.k1
   have b7 := hk.k2
   have b8 := hk.few
   replace hS := hS.addnil 1 3 (ints (fun _ => 0))
   replace hS : Sat w0 w [.blk g1 [.int .i64 0, .int .i64 0, .int .i64 0, .int .i64 0], .own (.slice none 0 0) 1 3 0 (ints (fun _ => 0))] := hS
   replace hS := hS.addnil 1 3 (ints (fun _ => 0))
   replace hS : Sat w0 w [.blk g1 [.int .i64 0, .int .i64 0, .int .i64 0, .int .i64 0], .own (.slice none 0 0) 1 3 0 (ints (fun _ => 0)), .own (.slice none 0 0) 1 3 0 (ints (fun _ => 0))] := hS
   refine cw_loop (fun mm a w => ∃ (m : Int) (i : Int) (va : Value) (f : Int → Int) (vb : Value) (g : Int → Int), mm = ((d.n - i).toNat) ∧ (0 ≤ i) ∧ (i ≤ d.n) ∧ (0 ≤ m) ∧ (m ≤ i) ∧ (SzInv f m d d.W s.kf i) ∧ (SzInv g m d d.H s.kf i) ∧ (Slh va m) ∧ (Slh vb m) ∧ Fr a 123 [(0, vD), (1, .int .i64 s.w), (2, .int .i64 s.h), (3, .int .i64 s.kf), (8, .int .i64 0), (9, .pointer (some ⟨g1, 0, none⟩)), (10, .int .i64 0), (11, .int .i64 az1), (13, va), (14, vb), (15, .int .i64 i)] ∧ Sat w0 w [.blk g1 [.int .i64 0, .int .i64 0, .int .i64 0, .int .i64 0], .own va 1 3 m (ints f), .own vb 1 3 m (ints g)]) ?_ ?_ (m := ((d.n - 0).toNat))
   ·
    refine ⟨0, 0, (.slice none 0 0), (fun _ => 0), (.slice none 0 0), (fun _ => 0), rfl, (by omega), (by omega), (by omega), (by omega), ?_, ?_, ?_, ?_, (hF.pick (hF.pick (hF.pick (hF.pick (hF.pick (hF.pick (hF.pick (hF.pick (hF.pick (hF.pick (hF.pick hF.nil 15 rfl) 14 rfl) 13 rfl) 11 rfl) 10 rfl) 9 rfl) 8 rfl) 3 rfl) 2 rfl) 1 rfl) 0 rfl), hS⟩
    ·
     exact SzInv.start _ _ _ _
    ·
     exact SzInv.start _ _ _ _
    ·
     exact slh_nil
    ·
     exact slh_nil
   ·
    clear hF hS a w
    rintro mm a w ⟨m, i, va, f, vb, g, rfl, h0, h1, hm0, hm1, hw, hv, hva, hvb, hF, hS⟩
    refine cw_seq ?_
    refine cw_seq ?_
    refine wp_region_lit ?_
    refine ls_val hF (.free rfl) rfl rfl (ex_move rfl rfl) ?_; clear hF a; intro a hF
    refine ls_val hF (.free rfl) rfl rfl (ex_move rfl rfl) ?_; clear hF a; intro a hF
    refine ls_val hF (.free rfl) rfl rfl (ex_len rfl sl_22 rfl hD.row.slh) ?_; clear hF a; intro a hF
    refine ls_val hF (.free rfl) rfl rfl (ex_lss rfl rfl rfl) ?_; clear hF a; intro a hF
    refine ls_nil ?_
    refine then_normal ?_
    refine cw_if hF rfl (fun hc => ?_) (fun hc => ?_)
    ·
     refine wp_skip ?_
     refine then_normal ?_
     refine cw_seq ?_
     refine wp_block ?_
     refine cw_seq ?_
     refine wp_region_lit ?_
     refine ls_val hF (.free rfl) rfl rfl (ex_move rfl rfl) ?_; clear hF a; intro a hF
     refine ls_val hF (.free rfl) rfl rfl (ex_move rfl rfl) ?_; clear hF a; intro a hF
     refine ls_val hF (.free rfl) rfl rfl (ex_index (k := 3 * i) rfl sl_22 rfl rfl hD.row.slh (by omega) (by omega) (by omega)) ?_; clear hF a; intro a hF
     refine ls_val hF (.free rfl) rfl rfl (ex_field (b := cad vD (3 * i + 2)) rfl fd_62_2 rfl (by rw [cad_add hD.row.slh (by omega) (by omega)]; first | rfl | (congr 1; omega))) ?_; clear hF a; intro a hF
     refine ls_val hF (.free rfl) rfl rfl (ex_load_row (u := .int .i64 (d.N i)) rfl pl_3 rfl (hD.row.below hS.below) (by omega) (by omega) (dcells2 d.W d.H d.N (by omega))) ?_; clear hF a; intro a hF
     have hbv := hD.bn i
     have hei := hk.all i h0 (by omega); unfold Dem.each at hei
     refine ls_val hF (.free rfl) rfl rfl (ex_gtr rfl rfl rfl) ?_; clear hF a; intro a hF
     refine ls_nil ?_
     refine then_normal ?_
     refine cw_if hF rfl (fun hc => ?_) (fun hc => ?_)
     ·
      refine dr_sat (m0 := [.blk g1 [.int .i64 0, .int .i64 0, .int .i64 0, .int .i64 0]]) (m1 := [.blk g1 [.int .i64 0, .int .i64 0, .int .i64 0, .int .i64 0]]) 1000 mx_ hS (.cons_cons _ (.cons _ (.cons _ .slnil))) (.cons_cons _ (.cons _ (.cons _ .slnil))) rfl ?_; clear hS; intro w hS hcl hB
      refine dr_val hF hcl hB 0 rfl (.free rfl) rfl rfl (by kernel_rfl) rfl (fun w => (ex_move rfl rfl)) ?_; clear hF a hcl hB; intro a hF hcl hB
      refine dr_val hF hcl hB 1 rfl (.free rfl) rfl rfl (by kernel_rfl) rfl (fun w => (ex_move rfl rfl)) ?_; clear hF a hcl hB; intro a hF hcl hB
      refine dr_val hF hcl hB 2 rfl (.free rfl) rfl rfl (by kernel_rfl) rfl (fun w => (ex_move rfl rfl)) ?_; clear hF a hcl hB; intro a hF hcl hB
      refine dr_val hF hcl hB 3 rfl (.free rfl) rfl rfl (by kernel_rfl) rfl (fun w => (ex_index (k := 3 * i) rfl sl_22 rfl rfl hD.row.slh (by omega) (by omega) (by omega))) ?_; clear hF a hcl hB; intro a hF hcl hB
      refine dr_val hF hcl hB 4 rfl (.free rfl) rfl rfl (by kernel_rfl) rfl (fun w => (ex_field (b := cad vD (3 * i)) rfl fd_62_0 rfl (by rw [cad_add hD.row.slh (by omega) (by omega)]; first | rfl | (congr 1; omega)))) ?_; clear hF a hcl hB; intro a hF hcl hB
      refine dr_loadA hF hcl hB 5 rfl (.free rfl) rfl rfl (by kernel_rfl) rfl (fun w hS => (ex_load_row (u := .int .i64 (d.W i)) rfl pl_3 rfl (hD.row.below hS.below) (by omega) (by omega) (dcells0 d.W d.H d.N (by omega)))) ?_; clear hF a hcl hB; intro a hF hcl hB
      have hbv := hD.bw i
      refine dr_val hF hcl hB 6 rfl (.free rfl) rfl rfl (by kernel_rfl) rfl (fun w => (ex_move rfl rfl)) ?_; clear hF a hcl hB; intro a hF hcl hB
      refine dr_val hF hcl hB 7 rfl (.free rfl) rfl rfl (by kernel_rfl) rfl (fun w => (ex_add (r := (d.W i) + s.kf) rfl rfl rfl (by omega) (by unfold I64; omega))) ?_; clear hF a hcl hB; intro a hF hcl hB
      refine dr_val hF hcl hB 10 rfl (.free rfl) rfl rfl (by kernel_rfl) rfl (fun w => (ex_move rfl rfl)) ?_; clear hF a hcl hB; intro a hF hcl hB
      refine dr_val hF hcl hB 11 rfl (.free rfl) rfl rfl (by kernel_rfl) rfl (fun w => (ex_move rfl rfl)) ?_; clear hF a hcl hB; intro a hF hcl hB
      refine dr_val hF hcl hB 12 rfl (.free rfl) rfl rfl (by kernel_rfl) rfl (fun w => (ex_move rfl rfl)) ?_; clear hF a hcl hB; intro a hF hcl hB
      refine dr_val hF hcl hB 13 rfl (.free rfl) rfl rfl (by kernel_rfl) rfl (fun w => (ex_index (k := 3 * i) rfl sl_22 rfl rfl hD.row.slh (by omega) (by omega) (by omega))) ?_; clear hF a hcl hB; intro a hF hcl hB
      refine dr_val hF hcl hB 14 rfl (.free rfl) rfl rfl (by kernel_rfl) rfl (fun w => (ex_field (b := cad vD (3 * i + 1)) rfl fd_62_1 rfl (by rw [cad_add hD.row.slh (by omega) (by omega)]; first | rfl | (congr 1; omega)))) ?_; clear hF a hcl hB; intro a hF hcl hB
      refine dr_loadA hF hcl hB 15 rfl (.free rfl) rfl rfl (by kernel_rfl) rfl (fun w hS => (ex_load_row (u := .int .i64 (d.H i)) rfl pl_3 rfl (hD.row.below hS.below) (by omega) (by omega) (dcells1 d.W d.H d.N (by omega)))) ?_; clear hF a hcl hB; intro a hF hcl hB
      have hbv := hD.bh i
      refine dr_val hF hcl hB 16 rfl (.free rfl) rfl rfl (by kernel_rfl) rfl (fun w => (ex_move rfl rfl)) ?_; clear hF a hcl hB; intro a hF hcl hB
      refine dr_val hF hcl hB 17 rfl (.free rfl) rfl rfl (by kernel_rfl) rfl (fun w => (ex_add (r := (d.H i) + s.kf) rfl rfl rfl (by omega) (by unfold I64; omega))) ?_; clear hF a hcl hB; intro a hF hcl hB
      refine dr_fork (r := [8, 18]) hcl (by decide) (by kernel_rfl) ((fk_cons ?_ (fk_cons ?_ fk_nil)))
      ·
       refine fk_any hF 8 rfl (.free rfl) rfl rfl (ex_lit (n := 1) (len := 1) (pv := [(0, .int .i64 ((d.W i) + s.kf))]) (cs := [.int .i64 ((d.W i) + s.kf)]) (c := ints (fun _ => (d.W i) + s.kf)) rfl sl_52 el_3 hS (parts_cons rfl parts0) (by kernel_rfl) (by decide) (by decide) rfl rfl (fun k hk => by rcases k with _ | k <;> first | rfl | (exfalso; omega)) (by omega)) ?_; clear hF hB; rintro v1 w ⟨hS, hv1⟩ a hF hcl
       replace hS : Sat w0 w [.blk g1 [.int .i64 0, .int .i64 0, .int .i64 0, .int .i64 0], .own va 1 3 m (ints f), .own vb 1 3 m (ints g), .own v1 1 3 1 (ints (fun _ => (d.W i) + s.kf))] := hS
       refine ⟨⟨(fun _ => hS.sub (.cons_cons _ (.cons _ (.cons _ (.cons _ .slnil))))), hS.sub (.cons_cons _ (.cons _ (.cons _ (.cons _ .slnil))))⟩, fun hB => ?_⟩
       refine dr_fork (r := [9, 18]) hcl (by decide) (by kernel_rfl) ((fk_cons ?_ (fk_cons ?_ fk_nil)))
       ·
        refine fk_any hF 9 rfl (.free rfl) rfl rfl (ap_own 1 (r := m + 1) (f := ints (snoc f m ((d.W i) + s.kf))) rfl sl_52 el_3 rfl (by decide) hS rfl rfl rfl (hS.rowN 3 rfl) (fun _ _ _ => rfl) (by omega) (by omega) (by omega) (cat_snoc _ _ _)) ?_; clear hF hB; rintro v2 w ⟨hS, hv2⟩ a hF hcl
        replace hS : Sat w0 w [.blk g1 [.int .i64 0, .int .i64 0, .int .i64 0, .int .i64 0], .own v2 1 3 (m + 1) (ints (snoc f m ((d.W i) + s.kf))), .own vb 1 3 m (ints g), .own v1 1 3 1 (ints (fun _ => (d.W i) + s.kf))] := hS
        refine ⟨⟨(fun _ => hS.sub (.cons_cons _ (.cons _ (.cons _ (.cons _ .slnil))))), hS.sub (.cons_cons _ (.cons _ (.cons _ (.cons _ .slnil))))⟩, fun hB => ?_⟩
        refine dr_any hF hcl 18 rfl (.free rfl) rfl rfl (by kernel_rfl) (ex_lit (n := 1) (len := 1) (pv := [(0, .int .i64 ((d.H i) + s.kf))]) (cs := [.int .i64 ((d.H i) + s.kf)]) (c := ints (fun _ => (d.H i) + s.kf)) rfl sl_52 el_3 hS (parts_cons rfl parts0) (by kernel_rfl) (by decide) (by decide) rfl rfl (fun k hk => by rcases k with _ | k <;> first | rfl | (exfalso; omega)) (by omega)) ?_; clear hF hB; rintro v3 w ⟨hS, hv3⟩ a hF hcl
        replace hS : Sat w0 w [.blk g1 [.int .i64 0, .int .i64 0, .int .i64 0, .int .i64 0], .own v2 1 3 (m + 1) (ints (snoc f m ((d.W i) + s.kf))), .own vb 1 3 m (ints g), .own v1 1 3 1 (ints (fun _ => (d.W i) + s.kf)), .own v3 1 3 1 (ints (fun _ => (d.H i) + s.kf))] := hS
        refine ⟨⟨(fun _ => hS.sub (.cons_cons _ (.cons _ (.cons _ (.cons _ (.cons _ .slnil)))))), hS.sub (.cons_cons _ (.cons _ (.cons _ (.cons _ (.cons _ .slnil)))))⟩, fun hB => ?_⟩
        refine dr_any hF hcl 19 rfl (.free rfl) rfl rfl (by kernel_rfl) (ap_own 2 (r := m + 1) (f := ints (snoc g m ((d.H i) + s.kf))) rfl sl_52 el_3 rfl (by decide) hS rfl rfl rfl (hS.rowN 4 rfl) (fun _ _ _ => rfl) (by omega) (by omega) (by omega) (cat_snoc _ _ _)) ?_; clear hF hB; rintro v4 w ⟨hS, hv4⟩ a hF hcl
        replace hS : Sat w0 w [.blk g1 [.int .i64 0, .int .i64 0, .int .i64 0, .int .i64 0], .own v2 1 3 (m + 1) (ints (snoc f m ((d.W i) + s.kf))), .own v4 1 3 (m + 1) (ints (snoc g m ((d.H i) + s.kf))), .own v1 1 3 1 (ints (fun _ => (d.W i) + s.kf)), .own v3 1 3 1 (ints (fun _ => (d.H i) + s.kf))] := hS
        refine ⟨⟨(fun _ => hS.sub (.cons_cons _ (.cons _ (.cons _ (.cons _ (.cons _ .slnil)))))), hS.sub (.cons_cons _ (.cons _ (.cons _ (.cons _ (.cons _ .slnil)))))⟩, fun hB => ?_⟩
        refine dr_val hF hcl hB 20 rfl (.free rfl) rfl rfl (by kernel_rfl) rfl (fun w => (ex_assign rfl rfl)) ?_; clear hF a hcl hB; intro a hF hcl hB
        refine dr_val hF hcl hB 21 rfl (.free rfl) rfl rfl (by kernel_rfl) rfl (fun w => (ex_assign rfl rfl)) ?_; clear hF a hcl hB; intro a hF hcl hB
        refine dr_done (by kernel_rfl) ?_; clear hcl hB
        refine inb_normal ?_
        refine then_normal ?_
        refine wp_region_lit ?_
        refine ls_val hF (.free rfl) rfl rfl (ex_move rfl rfl) ?_; clear hF a; intro a hF
        refine ls_val hF (.free rfl) rfl rfl (ex_add (r := i + 1) rfl rfl rfl (by omega) (by unfold I64; omega)) ?_; clear hF a; intro a hF
        refine ls_val hF (.free rfl) rfl rfl (ex_assign rfl rfl) ?_; clear hF a; intro a hF
        refine ls_nil ?_
        refine then_normal ?_
        refine ⟨_, (by omega), m + 1, i + 1, v2, (snoc f m ((d.W i) + s.kf)), v4, (snoc g m ((d.H i) + s.kf)), rfl, (by omega), (by omega), (by omega), (by omega), ?_, ?_, ?_, ?_, (hF.pick (hF.pick (hF.pick (hF.pick (hF.pick (hF.pick (hF.pick (hF.pick (hF.pick (hF.pick (hF.pick hF.nil 15 rfl) 14 rfl) 13 rfl) 11 rfl) 10 rfl) 9 rfl) 8 rfl) 3 rfl) 2 rfl) 1 rfl) 0 rfl), hS.sub (.cons_cons _ (.cons_cons _ (.cons_cons _ (.cons _ (.cons _ .slnil)))))⟩
        ·
         first | exact hw.more hm0 h0 hc | exact hw.stay hc
        ·
         first | exact hv.more hm0 h0 hc | exact hv.stay hc
        ·
         exact hv2
        ·
         exact hv4
       ·
        refine fk_any hF 18 rfl (.free rfl) rfl rfl (ex_lit (n := 1) (len := 1) (pv := [(0, .int .i64 ((d.H i) + s.kf))]) (cs := [.int .i64 ((d.H i) + s.kf)]) (c := ints (fun _ => (d.H i) + s.kf)) rfl sl_52 el_3 hS (parts_cons rfl parts0) (by kernel_rfl) (by decide) (by decide) rfl rfl (fun k hk => by rcases k with _ | k <;> first | rfl | (exfalso; omega)) (by omega)) ?_; clear hF hB; rintro v2 w ⟨hS, hv2⟩ a hF hcl
        replace hS : Sat w0 w [.blk g1 [.int .i64 0, .int .i64 0, .int .i64 0, .int .i64 0], .own va 1 3 m (ints f), .own vb 1 3 m (ints g), .own v1 1 3 1 (ints (fun _ => (d.W i) + s.kf)), .own v2 1 3 1 (ints (fun _ => (d.H i) + s.kf))] := hS
        refine ⟨⟨(fun _ => hS.sub (.cons_cons _ (.cons _ (.cons _ (.cons _ (.cons _ .slnil)))))), hS.sub (.cons_cons _ (.cons _ (.cons _ (.cons _ (.cons _ .slnil)))))⟩, fun hB => ?_⟩
        refine dr_any hF hcl 9 rfl (.free rfl) rfl rfl (by kernel_rfl) (ap_own 1 (r := m + 1) (f := ints (snoc f m ((d.W i) + s.kf))) rfl sl_52 el_3 rfl (by decide) hS rfl rfl rfl (hS.rowN 3 rfl) (fun _ _ _ => rfl) (by omega) (by omega) (by omega) (cat_snoc _ _ _)) ?_; clear hF hB; rintro v3 w ⟨hS, hv3⟩ a hF hcl
        replace hS : Sat w0 w [.blk g1 [.int .i64 0, .int .i64 0, .int .i64 0, .int .i64 0], .own v3 1 3 (m + 1) (ints (snoc f m ((d.W i) + s.kf))), .own vb 1 3 m (ints g), .own v1 1 3 1 (ints (fun _ => (d.W i) + s.kf)), .own v2 1 3 1 (ints (fun _ => (d.H i) + s.kf))] := hS
        refine ⟨⟨(fun _ => hS.sub (.cons_cons _ (.cons _ (.cons _ (.cons _ (.cons _ .slnil)))))), hS.sub (.cons_cons _ (.cons _ (.cons _ (.cons _ (.cons _ .slnil)))))⟩, fun hB => ?_⟩
        refine dr_any hF hcl 19 rfl (.free rfl) rfl rfl (by kernel_rfl) (ap_own 2 (r := m + 1) (f := ints (snoc g m ((d.H i) + s.kf))) rfl sl_52 el_3 rfl (by decide) hS rfl rfl rfl (hS.rowN 4 rfl) (fun _ _ _ => rfl) (by omega) (by omega) (by omega) (cat_snoc _ _ _)) ?_; clear hF hB; rintro v4 w ⟨hS, hv4⟩ a hF hcl
        replace hS : Sat w0 w [.blk g1 [.int .i64 0, .int .i64 0, .int .i64 0, .int .i64 0], .own v3 1 3 (m + 1) (ints (snoc f m ((d.W i) + s.kf))), .own v4 1 3 (m + 1) (ints (snoc g m ((d.H i) + s.kf))), .own v1 1 3 1 (ints (fun _ => (d.W i) + s.kf)), .own v2 1 3 1 (ints (fun _ => (d.H i) + s.kf))] := hS
        refine ⟨⟨(fun _ => hS.sub (.cons_cons _ (.cons _ (.cons _ (.cons _ (.cons _ .slnil)))))), hS.sub (.cons_cons _ (.cons _ (.cons _ (.cons _ (.cons _ .slnil)))))⟩, fun hB => ?_⟩
        refine dr_val hF hcl hB 20 rfl (.free rfl) rfl rfl (by kernel_rfl) rfl (fun w => (ex_assign rfl rfl)) ?_; clear hF a hcl hB; intro a hF hcl hB
        refine dr_val hF hcl hB 21 rfl (.free rfl) rfl rfl (by kernel_rfl) rfl (fun w => (ex_assign rfl rfl)) ?_; clear hF a hcl hB; intro a hF hcl hB
        refine dr_done (by kernel_rfl) ?_; clear hcl hB
        refine inb_normal ?_
        refine then_normal ?_
        refine wp_region_lit ?_
        refine ls_val hF (.free rfl) rfl rfl (ex_move rfl rfl) ?_; clear hF a; intro a hF
        refine ls_val hF (.free rfl) rfl rfl (ex_add (r := i + 1) rfl rfl rfl (by omega) (by unfold I64; omega)) ?_; clear hF a; intro a hF
        refine ls_val hF (.free rfl) rfl rfl (ex_assign rfl rfl) ?_; clear hF a; intro a hF
        refine ls_nil ?_
        refine then_normal ?_
        refine ⟨_, (by omega), m + 1, i + 1, v3, (snoc f m ((d.W i) + s.kf)), v4, (snoc g m ((d.H i) + s.kf)), rfl, (by omega), (by omega), (by omega), (by omega), ?_, ?_, ?_, ?_, (hF.pick (hF.pick (hF.pick (hF.pick (hF.pick (hF.pick (hF.pick (hF.pick (hF.pick (hF.pick (hF.pick hF.nil 15 rfl) 14 rfl) 13 rfl) 11 rfl) 10 rfl) 9 rfl) 8 rfl) 3 rfl) 2 rfl) 1 rfl) 0 rfl), hS.sub (.cons_cons _ (.cons_cons _ (.cons_cons _ (.cons _ (.cons _ .slnil)))))⟩
        ·
         first | exact hw.more hm0 h0 hc | exact hw.stay hc
        ·
         first | exact hv.more hm0 h0 hc | exact hv.stay hc
        ·
         exact hv3
        ·
         exact hv4
      ·
       refine fk_any hF 18 rfl (.free rfl) rfl rfl (ex_lit (n := 1) (len := 1) (pv := [(0, .int .i64 ((d.H i) + s.kf))]) (cs := [.int .i64 ((d.H i) + s.kf)]) (c := ints (fun _ => (d.H i) + s.kf)) rfl sl_52 el_3 hS (parts_cons rfl parts0) (by kernel_rfl) (by decide) (by decide) rfl rfl (fun k hk => by rcases k with _ | k <;> first | rfl | (exfalso; omega)) (by omega)) ?_; clear hF hB; rintro v1 w ⟨hS, hv1⟩ a hF hcl
       replace hS : Sat w0 w [.blk g1 [.int .i64 0, .int .i64 0, .int .i64 0, .int .i64 0], .own va 1 3 m (ints f), .own vb 1 3 m (ints g), .own v1 1 3 1 (ints (fun _ => (d.H i) + s.kf))] := hS
       refine ⟨⟨(fun _ => hS.sub (.cons_cons _ (.cons _ (.cons _ (.cons _ .slnil))))), hS.sub (.cons_cons _ (.cons _ (.cons _ (.cons _ .slnil))))⟩, fun hB => ?_⟩
       refine dr_any hF hcl 8 rfl (.free rfl) rfl rfl (by kernel_rfl) (ex_lit (n := 1) (len := 1) (pv := [(0, .int .i64 ((d.W i) + s.kf))]) (cs := [.int .i64 ((d.W i) + s.kf)]) (c := ints (fun _ => (d.W i) + s.kf)) rfl sl_52 el_3 hS (parts_cons rfl parts0) (by kernel_rfl) (by decide) (by decide) rfl rfl (fun k hk => by rcases k with _ | k <;> first | rfl | (exfalso; omega)) (by omega)) ?_; clear hF hB; rintro v2 w ⟨hS, hv2⟩ a hF hcl
       replace hS : Sat w0 w [.blk g1 [.int .i64 0, .int .i64 0, .int .i64 0, .int .i64 0], .own va 1 3 m (ints f), .own vb 1 3 m (ints g), .own v1 1 3 1 (ints (fun _ => (d.H i) + s.kf)), .own v2 1 3 1 (ints (fun _ => (d.W i) + s.kf))] := hS
       refine ⟨⟨(fun _ => hS.sub (.cons_cons _ (.cons _ (.cons _ (.cons _ (.cons _ .slnil)))))), hS.sub (.cons_cons _ (.cons _ (.cons _ (.cons _ (.cons _ .slnil)))))⟩, fun hB => ?_⟩
       refine dr_any hF hcl 9 rfl (.free rfl) rfl rfl (by kernel_rfl) (ap_own 1 (r := m + 1) (f := ints (snoc f m ((d.W i) + s.kf))) rfl sl_52 el_3 rfl (by decide) hS rfl rfl rfl (hS.rowN 4 rfl) (fun _ _ _ => rfl) (by omega) (by omega) (by omega) (cat_snoc _ _ _)) ?_; clear hF hB; rintro v3 w ⟨hS, hv3⟩ a hF hcl
       replace hS : Sat w0 w [.blk g1 [.int .i64 0, .int .i64 0, .int .i64 0, .int .i64 0], .own v3 1 3 (m + 1) (ints (snoc f m ((d.W i) + s.kf))), .own vb 1 3 m (ints g), .own v1 1 3 1 (ints (fun _ => (d.H i) + s.kf)), .own v2 1 3 1 (ints (fun _ => (d.W i) + s.kf))] := hS
       refine ⟨⟨(fun _ => hS.sub (.cons_cons _ (.cons _ (.cons _ (.cons _ (.cons _ .slnil)))))), hS.sub (.cons_cons _ (.cons _ (.cons _ (.cons _ (.cons _ .slnil)))))⟩, fun hB => ?_⟩
       refine dr_any hF hcl 19 rfl (.free rfl) rfl rfl (by kernel_rfl) (ap_own 2 (r := m + 1) (f := ints (snoc g m ((d.H i) + s.kf))) rfl sl_52 el_3 rfl (by decide) hS rfl rfl rfl (hS.rowN 3 rfl) (fun _ _ _ => rfl) (by omega) (by omega) (by omega) (cat_snoc _ _ _)) ?_; clear hF hB; rintro v4 w ⟨hS, hv4⟩ a hF hcl
       replace hS : Sat w0 w [.blk g1 [.int .i64 0, .int .i64 0, .int .i64 0, .int .i64 0], .own v3 1 3 (m + 1) (ints (snoc f m ((d.W i) + s.kf))), .own v4 1 3 (m + 1) (ints (snoc g m ((d.H i) + s.kf))), .own v1 1 3 1 (ints (fun _ => (d.H i) + s.kf)), .own v2 1 3 1 (ints (fun _ => (d.W i) + s.kf))] := hS
       refine ⟨⟨(fun _ => hS.sub (.cons_cons _ (.cons _ (.cons _ (.cons _ (.cons _ .slnil)))))), hS.sub (.cons_cons _ (.cons _ (.cons _ (.cons _ (.cons _ .slnil)))))⟩, fun hB => ?_⟩
       refine dr_val hF hcl hB 20 rfl (.free rfl) rfl rfl (by kernel_rfl) rfl (fun w => (ex_assign rfl rfl)) ?_; clear hF a hcl hB; intro a hF hcl hB
       refine dr_val hF hcl hB 21 rfl (.free rfl) rfl rfl (by kernel_rfl) rfl (fun w => (ex_assign rfl rfl)) ?_; clear hF a hcl hB; intro a hF hcl hB
       refine dr_done (by kernel_rfl) ?_; clear hcl hB
       refine inb_normal ?_
       refine then_normal ?_
       refine wp_region_lit ?_
       refine ls_val hF (.free rfl) rfl rfl (ex_move rfl rfl) ?_; clear hF a; intro a hF
       refine ls_val hF (.free rfl) rfl rfl (ex_add (r := i + 1) rfl rfl rfl (by omega) (by unfold I64; omega)) ?_; clear hF a; intro a hF
       refine ls_val hF (.free rfl) rfl rfl (ex_assign rfl rfl) ?_; clear hF a; intro a hF
       refine ls_nil ?_
       refine then_normal ?_
       refine ⟨_, (by omega), m + 1, i + 1, v3, (snoc f m ((d.W i) + s.kf)), v4, (snoc g m ((d.H i) + s.kf)), rfl, (by omega), (by omega), (by omega), (by omega), ?_, ?_, ?_, ?_, (hF.pick (hF.pick (hF.pick (hF.pick (hF.pick (hF.pick (hF.pick (hF.pick (hF.pick (hF.pick (hF.pick hF.nil 15 rfl) 14 rfl) 13 rfl) 11 rfl) 10 rfl) 9 rfl) 8 rfl) 3 rfl) 2 rfl) 1 rfl) 0 rfl), hS.sub (.cons_cons _ (.cons_cons _ (.cons_cons _ (.cons _ (.cons _ .slnil)))))⟩
       ·
        first | exact hw.more hm0 h0 hc | exact hw.stay hc
       ·
        first | exact hv.more hm0 h0 hc | exact hv.stay hc
       ·
        exact hv3
       ·
        exact hv4
     ·
      refine wp_skip ?_
      refine inb_normal ?_
      refine then_normal ?_
      refine wp_region_lit ?_
      refine ls_val hF (.free rfl) rfl rfl (ex_move rfl rfl) ?_; clear hF a; intro a hF
      refine ls_val hF (.free rfl) rfl rfl (ex_add (r := i + 1) rfl rfl rfl (by omega) (by unfold I64; omega)) ?_; clear hF a; intro a hF
      refine ls_val hF (.free rfl) rfl rfl (ex_assign rfl rfl) ?_; clear hF a; intro a hF
      refine ls_nil ?_
      refine then_normal ?_
      refine ⟨_, (by omega), m, i + 1, va, f, vb, g, rfl, (by omega), (by omega), (by omega), (by omega), ?_, ?_, ?_, ?_, (hF.pick (hF.pick (hF.pick (hF.pick (hF.pick (hF.pick (hF.pick (hF.pick (hF.pick (hF.pick (hF.pick hF.nil 15 rfl) 14 rfl) 13 rfl) 11 rfl) 10 rfl) 9 rfl) 8 rfl) 3 rfl) 2 rfl) 1 rfl) 0 rfl), hS⟩
      ·
       first | exact hw.more hm0 h0 hc | exact hw.stay hc
      ·
       first | exact hv.more hm0 h0 hc | exact hv.stay hc
      ·
       exact hva
      ·
       exact hvb
    ·
     refine wp_exit ?_
     refine then_exit ?_
     refine then_exit ?_
     refine inb_hit ?_
     refine then_normal ?_
     refine cw_seq ?_
     refine wp_region_lit ?_
     refine ls_val hF (.free rfl) rfl rfl (ex_move rfl rfl) ?_; clear hF a; intro a hF
     refine ls_val hF (.free rfl) rfl rfl (ex_move rfl rfl) ?_; clear hF a; intro a hF
     refine ls_val hF (.free rfl) rfl rfl (ex_move rfl rfl) ?_; clear hF a; intro a hF
     refine ls_val hF (.free rfl) rfl rfl (ex_add (r := s.w + s.kf) rfl rfl rfl (by omega) (by unfold I64; omega)) ?_; clear hF a; intro a hF
     refine ls_call hF (.free rfl) rfl rfl (ex_call0 rfl rfl cl_29 (args_cons rfl (args_cons rfl args0))) (c_rcand (n := m) (c := (s.w + s.kf)) (f := f) w (hS.rowN 1 rfl) (by omega) (by omega) (by omega)) ?_; clear hF; rintro vrk1 w ⟨_, mk1, Kk1, Ak1, rfl, hslk1, hclk1, hflk1, hmlk1, hS'⟩ a hF
     replace hS : Sat w0 w [.blk g1 [.int .i64 0, .int .i64 0, .int .i64 0, .int .i64 0], .own va 1 3 m (ints f), .own vb 1 3 m (ints g), .own vrk1 2 26 mk1 (fcells Kk1 Ak1)] := hS.comp hS'; clear hS'
     obtain rfl : i = d.n := by omega
     have hsA := hw.cand (s.w + s.kf)
     have hcA : CandL (WSet d d.W s.kf (s.w + s.kf)) (LA d s) := by have hq := hclk1; rw [hsA] at hq; exact hq
     have hfA : FL (LA d s) mk1 Kk1 Ak1 := by have hq := hflk1; rw [hsA] at hq; exact hq
     have hlA := hfA.len; have hlA6 := hcA.len.1
     refine ls_val hF (.free rfl) rfl rfl (ex_move rfl rfl) ?_; clear hF a; intro a hF
     refine ls_val hF (.free rfl) rfl rfl (ex_move rfl rfl) ?_; clear hF a; intro a hF
     refine ls_val hF (.free rfl) rfl rfl (ex_move rfl rfl) ?_; clear hF a; intro a hF
     refine ls_val hF (.free rfl) rfl rfl (ex_add (r := s.h + s.kf) rfl rfl rfl (by omega) (by unfold I64; omega)) ?_; clear hF a; intro a hF
     refine ls_call hF (.free rfl) rfl rfl (ex_call0 rfl rfl cl_29 (args_cons rfl (args_cons rfl args0))) (c_rcand (n := m) (c := (s.h + s.kf)) (f := g) w (hS.rowN 2 rfl) (by omega) (by omega) (by omega)) ?_; clear hF; rintro vrk2 w ⟨_, mk2, Kk2, Ak2, rfl, hslk2, hclk2, hflk2, hmlk2, hS'⟩ a hF
     replace hS : Sat w0 w [.blk g1 [.int .i64 0, .int .i64 0, .int .i64 0, .int .i64 0], .own va 1 3 m (ints f), .own vb 1 3 m (ints g), .own vrk1 2 26 mk1 (fcells Kk1 Ak1), .own vrk2 2 26 mk2 (fcells Kk2 Ak2)] := hS.comp hS'; clear hS'
     have hsB : CandR g m (s.h + s.kf) = WSet d d.H s.kf (s.h + s.kf) := hv.cand _
     have hcB : CandL (WSet d d.H s.kf (s.h + s.kf)) (LB d s) := by have hq := hclk2; rw [hsB] at hq; exact hq
     have hfB : FL (LB d s) mk2 Kk2 Ak2 := by have hq := hflk2; rw [hsB] at hq; exact hq
     have hlB := hfB.len; have hlB6 := hcB.len.1
     refine ls_val hF (.free rfl) rfl rfl (ex_assign rfl rfl) ?_; clear hF a; intro a hF
     refine ls_val hF (.free rfl) rfl rfl (ex_assign rfl rfl) ?_; clear hF a; intro a hF
     refine ls_nil ?_
     refine then_normal ?_
     refine cw_seq ?_
     refine wp_region_lit ?_
     refine ls_val hF (.free rfl) rfl rfl (ex_any (w' := w) (r := .value (.agg #[.int .i64 0, .int .i64 0, .int .i64 0, .int .i64 0])) (by intro _ _ h; cases h) rfl (by kernel_rfl)) ?_; clear hF a; intro a hF
     refine ls_any hF (.free rfl) rfl rfl (ex_alloc (cs := [.int .i64 0, .int .i64 0, .int .i64 0, .int .i64 0]) rfl el_28 hS rfl) ?_; clear hF; rintro _ w ⟨g2, rfl, hS⟩ a hF
     replace hS : Sat w0 w [.blk g1 [.int .i64 0, .int .i64 0, .int .i64 0, .int .i64 0], .own va 1 3 m (ints f), .own vb 1 3 m (ints g), .own vrk1 2 26 mk1 (fcells Kk1 Ak1), .own vrk2 2 26 mk2 (fcells Kk2 Ak2), .blk g2 [.int .i64 0, .int .i64 0, .int .i64 0, .int .i64 0]] := hS
     refine ls_effx hF (.free rfl) rfl (st_blks 5 (ds := [.int .i64 0, .int .i64 0, .int .i64 0, .int .i64 0]) rfl st_28 hS rfl rfl rfl rfl (ones_cons rfl (ones_cons rfl (ones_cons rfl (ones_cons rfl ones_nil))))) ?_; clear hS; rintro w hS
     replace hS : Sat w0 w [.blk g1 [.int .i64 0, .int .i64 0, .int .i64 0, .int .i64 0], .own va 1 3 m (ints f), .own vb 1 3 m (ints g), .own vrk1 2 26 mk1 (fcells Kk1 Ak1), .own vrk2 2 26 mk2 (fcells Kk2 Ak2), .blk g2 [.int .i64 0, .int .i64 0, .int .i64 0, .int .i64 0]] := hS
     refine ls_nil ?_
     refine then_normal ?_
     refine cw_seq ?_
     refine cw_seq ?_
     refine wp_region_lit ?_
     refine ls_val hF (.free rfl) rfl rfl (ex_assign rfl rfl) ?_; clear hF a; intro a hF
     refine ls_nil ?_
     refine then_normal ?_
     refine wp_block ?_
     refine cw_loop (fun mm a w => ∃ (best : Int) (fa : Int) (fp : Int) (fb : Int) (fq : Int) (i : Int), mm = ((mk1 - i).toNat) ∧ (0 ≤ i) ∧ (i ≤ mk1) ∧ (Best1 (VV d s) (LA d s) (LB d s) i 0 best (fa, fp) (fb, fq)) ∧ Fr a 123 [(0, vD), (1, .int .i64 s.w), (2, .int .i64 s.h), (3, .int .i64 s.kf), (8, .int .i64 0), (9, .pointer (some ⟨g1, 0, none⟩)), (10, .int .i64 0), (11, .int .i64 best), (16, vrk1), (17, vrk2), (18, .pointer (some ⟨g2, 0, none⟩)), (19, .int .i64 i)] ∧ Sat w0 w [.blk g1 [.int .i64 0, .int .i64 0, .int .i64 0, .int .i64 0], .own va 1 3 m (ints f), .own vb 1 3 m (ints g), .own vrk1 2 26 mk1 (fcells Kk1 Ak1), .own vrk2 2 26 mk2 (fcells Kk2 Ak2), .blk g2 [.int .i64 fa, .int .i64 fp, .int .i64 fb, .int .i64 fq]]) ?_ ?_ (m := ((mk1 - 0).toNat))
     ·
      refine ⟨az1, 0, 0, 0, 0, 0, rfl, (by omega), (by omega), ?_, (hF.pick (hF.pick (hF.pick (hF.pick (hF.pick (hF.pick (hF.pick (hF.pick (hF.pick (hF.pick (hF.pick (hF.pick hF.nil 19 rfl) 18 rfl) 17 rfl) 16 rfl) 11 rfl) 10 rfl) 9 rfl) 8 rfl) 3 rfl) 2 rfl) 1 rfl) 0 rfl), hS⟩
      ·
       exact .inl ⟨rfl, rfl, .inr ⟨hv1, hcA.len.2, hcB.len.2⟩⟩
     ·
      clear hF hS a w
      rintro mm a w ⟨best, fa, fp, fb, fq, i, rfl, h0, h1, hb, hF, hS⟩
      refine cw_seq ?_
      refine cw_seq ?_
      refine wp_region_lit ?_
      refine ls_val hF (.free rfl) rfl rfl (ex_move rfl rfl) ?_; clear hF a; intro a hF
      refine ls_val hF (.free rfl) rfl rfl (ex_move rfl rfl) ?_; clear hF a; intro a hF
      refine ls_val hF (.free rfl) rfl rfl (ex_len rfl sl_78 rfl hslk1) ?_; clear hF a; intro a hF
      refine ls_val hF (.free rfl) rfl rfl (ex_lss rfl rfl rfl) ?_; clear hF a; intro a hF
      refine ls_nil ?_
      refine then_normal ?_
      refine cw_if hF rfl (fun hc => ?_) (fun hc => ?_)
      ·
       refine wp_skip ?_
       refine then_normal ?_
       refine cw_seq ?_
       refine wp_block ?_
       refine cw_seq ?_
       refine wp_region_lit ?_
       refine ls_val hF (.free rfl) rfl rfl (ex_assign rfl rfl) ?_; clear hF a; intro a hF
       refine ls_nil ?_
       refine then_normal ?_
       refine wp_block ?_
       refine cw_loop (fun mm a w => ∃ (best : Int) (fa : Int) (fp : Int) (fb : Int) (fq : Int) (j : Int), mm = ((mk2 - j).toNat) ∧ (0 ≤ j) ∧ (j ≤ mk2) ∧ (Best1 (VV d s) (LA d s) (LB d s) i j best (fa, fp) (fb, fq)) ∧ Fr a 123 [(0, vD), (1, .int .i64 s.w), (2, .int .i64 s.h), (3, .int .i64 s.kf), (8, .int .i64 0), (9, .pointer (some ⟨g1, 0, none⟩)), (10, .int .i64 0), (11, .int .i64 best), (16, vrk1), (17, vrk2), (18, .pointer (some ⟨g2, 0, none⟩)), (19, .int .i64 i), (20, .int .i64 j)] ∧ Sat w0 w [.blk g1 [.int .i64 0, .int .i64 0, .int .i64 0, .int .i64 0], .own va 1 3 m (ints f), .own vb 1 3 m (ints g), .own vrk1 2 26 mk1 (fcells Kk1 Ak1), .own vrk2 2 26 mk2 (fcells Kk2 Ak2), .blk g2 [.int .i64 fa, .int .i64 fp, .int .i64 fb, .int .i64 fq]]) ?_ ?_ (m := ((mk2 - 0).toNat))
       ·
        refine ⟨best, fa, fp, fb, fq, 0, rfl, (by omega), (by omega), ?_, (hF.pick (hF.pick (hF.pick (hF.pick (hF.pick (hF.pick (hF.pick (hF.pick (hF.pick (hF.pick (hF.pick (hF.pick (hF.pick hF.nil 20 rfl) 19 rfl) 18 rfl) 17 rfl) 16 rfl) 11 rfl) 10 rfl) 9 rfl) 8 rfl) 3 rfl) 2 rfl) 1 rfl) 0 rfl), hS⟩
        ·
         exact hb
       ·
        clear hF hS a w
        rintro mm a w ⟨best, fa, fp, fb, fq, j, rfl, j0, j1, hb, hF, hS⟩
        refine cw_seq ?_
        refine cw_seq ?_
        refine wp_region_lit ?_
        refine ls_val hF (.free rfl) rfl rfl (ex_move rfl rfl) ?_; clear hF a; intro a hF
        refine ls_val hF (.free rfl) rfl rfl (ex_move rfl rfl) ?_; clear hF a; intro a hF
        refine ls_val hF (.free rfl) rfl rfl (ex_len rfl sl_78 rfl hslk2) ?_; clear hF a; intro a hF
        refine ls_val hF (.free rfl) rfl rfl (ex_lss rfl rfl rfl) ?_; clear hF a; intro a hF
        refine ls_nil ?_
        refine then_normal ?_
        refine cw_if hF rfl (fun hc => ?_) (fun hc => ?_)
        ·
         refine wp_skip ?_
         refine then_normal ?_
         refine cw_seq ?_
         refine wp_block ?_
         refine cw_seq ?_
         refine dr_sat (m0 := [.blk g1 [.int .i64 0, .int .i64 0, .int .i64 0, .int .i64 0], .own va 1 3 m (ints f), .own vb 1 3 m (ints g), .own vrk1 2 26 mk1 (fcells Kk1 Ak1), .own vrk2 2 26 mk2 (fcells Kk2 Ak2), .blk g2 [.int .i64 fa, .int .i64 fp, .int .i64 fb, .int .i64 fq]]) (m1 := [.blk g1 [.int .i64 0, .int .i64 0, .int .i64 0, .int .i64 0], .own va 1 3 m (ints f), .own vb 1 3 m (ints g), .own vrk1 2 26 mk1 (fcells Kk1 Ak1), .own vrk2 2 26 mk2 (fcells Kk2 Ak2), .blk g2 [.int .i64 fa, .int .i64 fp, .int .i64 fb, .int .i64 fq]]) 1000 mx_ hS (.cons_cons _ (.cons_cons _ (.cons_cons _ (.cons_cons _ (.cons_cons _ (.cons_cons _ .slnil)))))) (.cons_cons _ (.cons_cons _ (.cons_cons _ (.cons_cons _ (.cons_cons _ (.cons_cons _ .slnil)))))) rfl ?_; clear hS; intro w hS hcl hB
         refine dr_val hF hcl hB 0 rfl (.free rfl) rfl rfl (by kernel_rfl) rfl (fun w => (ex_move rfl rfl)) ?_; clear hF a hcl hB; intro a hF hcl hB
         refine dr_val hF hcl hB 1 rfl (.free rfl) rfl rfl (by kernel_rfl) rfl (fun w => (ex_move rfl rfl)) ?_; clear hF a hcl hB; intro a hF hcl hB
         refine dr_val hF hcl hB 2 rfl (.free rfl) rfl rfl (by kernel_rfl) rfl (fun w => (ex_index (k := 2 * i) rfl sl_78 rfl rfl hslk1 (by omega) (by omega) (by omega))) ?_; clear hF a hcl hB; intro a hF hcl hB
         refine dr_loadA hF hcl hB 3 rfl (.free rfl) rfl rfl (by kernel_rfl) rfl (fun w hS => (ex_loads_row (cs := [.int .i64 (Kk1 i), .int .i64 (Ak1 i)]) rfl st_26 rfl (hS.rowN 3 rfl) (by omega) (by omega) rfl (by omega) (fcells_at Kk1 Ak1 (by omega)))) ?_; clear hF a hcl hB; intro a hF hcl hB
         refine dr_val hF hcl hB 4 rfl (.free rfl) rfl rfl (by kernel_rfl) rfl (fun w => (ex_move rfl rfl)) ?_; clear hF a hcl hB; intro a hF hcl hB
         refine dr_val hF hcl hB 5 rfl (.free rfl) rfl rfl (by kernel_rfl) rfl (fun w => (ex_move rfl rfl)) ?_; clear hF a hcl hB; intro a hF hcl hB
         refine dr_val hF hcl hB 6 rfl (.free rfl) rfl rfl (by kernel_rfl) rfl (fun w => (ex_index (k := 2 * j) rfl sl_78 rfl rfl hslk2 (by omega) (by omega) (by omega))) ?_; clear hF a hcl hB; intro a hF hcl hB
         refine dr_loadA hF hcl hB 7 rfl (.free rfl) rfl rfl (by kernel_rfl) rfl (fun w hS => (ex_loads_row (cs := [.int .i64 (Kk2 j), .int .i64 (Ak2 j)]) rfl st_26 rfl (hS.rowN 4 rfl) (by omega) (by omega) rfl (by omega) (fcells_at Kk2 Ak2 (by omega)))) ?_; clear hF a hcl hB; intro a hF hcl hB
         refine dr_val hF hcl hB 8 rfl (.free rfl) rfl rfl (by kernel_rfl) rfl (fun w => (ex_any (w' := w) (r := .value (.agg #[.int .i64 (Kk1 i), .int .i64 (Ak1 i), .int .i64 (Kk2 j), .int .i64 (Ak2 j)])) (by intro _ _ h; cases h) rfl (by kernel_rfl))) ?_; clear hF a hcl hB; intro a hF hcl hB
         refine dr_val hF hcl hB 9 rfl (.free rfl) rfl rfl (by kernel_rfl) rfl (fun w => (ex_move rfl rfl)) ?_; clear hF a hcl hB; intro a hF hcl hB
         refine dr_val hF hcl hB 10 rfl (.free rfl) rfl rfl (by kernel_rfl) rfl (fun w => (ex_move rfl rfl)) ?_; clear hF a hcl hB; intro a hF hcl hB
         refine dr_val hF hcl hB 11 rfl (.free rfl) rfl rfl (by kernel_rfl) rfl (fun w => (ex_move rfl rfl)) ?_; clear hF a hcl hB; intro a hF hcl hB
         refine dr_val hF hcl hB 12 rfl (.free rfl) rfl rfl (by kernel_rfl) rfl (fun w => (ex_move rfl rfl)) ?_; clear hF a hcl hB; intro a hF hcl hB
         refine dr_call hF hcl 13 rfl (.free rfl) rfl rfl (by kernel_rfl) (ex_call0 rfl rfl cl_15 (args_cons rfl (args_cons rfl (args_cons rfl (args_cons rfl (args_cons rfl args0)))))) (c_rValue (x := ⟨(Kk1 i), (Ak1 i), (Kk2 j), (Ak2 j)⟩) (d := d) (s := s) w (hD.below hS.below) hs (by first | ((try dsimp only); omega) | exact crt_i64 (ok_of hcA hcB (hfA.at h0 (by omega)) (hfB.at j0 (by omega))) (by omega) (by omega) (by omega) (by omega))) ?_; clear hF hB; rintro _ w ⟨az2, ez2, rfl, hrz2, hS'⟩ a hF hcl
         replace hS : Sat w0 w [.blk g1 [.int .i64 0, .int .i64 0, .int .i64 0, .int .i64 0], .own va 1 3 m (ints f), .own vb 1 3 m (ints g), .own vrk1 2 26 mk1 (fcells Kk1 Ak1), .own vrk2 2 26 mk2 (fcells Kk2 Ak2), .blk g2 [.int .i64 fa, .int .i64 fp, .int .i64 fb, .int .i64 fq]] := hS.comp hS'; clear hS'
         refine ⟨⟨(fun _ => hS.sub (.cons_cons _ (.cons_cons _ (.cons_cons _ (.cons_cons _ (.cons_cons _ (.cons_cons _ .slnil))))))), hS.sub (.cons_cons _ (.cons_cons _ (.cons_cons _ (.cons_cons _ (.cons_cons _ (.cons_cons _ .slnil))))))⟩, fun hB => ?_⟩
         refine dr_val hF hcl hB 14 rfl (.free rfl) rfl rfl (by kernel_rfl) rfl (fun w => (ex_move rfl rfl)) ?_; clear hF a hcl hB; intro a hF hcl hB
         have hvz := hrz2.val hk (ok_of hcA hcB (hfA.at h0 (by omega)) (hfB.at j0 (by omega))) hng
         refine dr_val hF hcl hB 15 rfl (.free rfl) rfl rfl (by kernel_rfl) rfl (fun w => (ex_extract rfl rfl rfl)) ?_; clear hF a hcl hB; intro a hF hcl hB
         refine dr_val hF hcl hB 16 rfl (.free rfl) rfl rfl (by kernel_rfl) rfl (fun w => (ex_extract rfl rfl rfl)) ?_; clear hF a hcl hB; intro a hF hcl hB
         refine dr_val hF hcl hB 17 rfl (.free rfl) rfl rfl (by kernel_rfl) rfl (fun w => (ex_assign rfl rfl)) ?_; clear hF a hcl hB; intro a hF hcl hB
         refine dr_val hF hcl hB 18 rfl (.free rfl) rfl rfl (by kernel_rfl) rfl (fun w => (ex_assign rfl rfl)) ?_; clear hF a hcl hB; intro a hF hcl hB
         refine dr_done (by kernel_rfl) ?_; clear hcl hB
         refine then_normal ?_
         refine cw_seq ?_
         refine wp_region_lit ?_
         refine ls_val hF (.free rfl) rfl rfl (ex_move rfl rfl) ?_; clear hF a; intro a hF
         refine ls_val hF (.free rfl) rfl rfl (ex_move rfl rfl) ?_; clear hF a; intro a hF
         refine ls_val hF (.free rfl) rfl rfl (ex_gtr rfl rfl rfl) ?_; clear hF a; intro a hF
         refine ls_nil ?_
         refine then_normal ?_
         refine cw_if hF rfl (fun hc => ?_) (fun hc => ?_)
         ·
          refine dr_sat (m0 := [.blk g1 [.int .i64 0, .int .i64 0, .int .i64 0, .int .i64 0], .own va 1 3 m (ints f), .own vb 1 3 m (ints g), .own vrk1 2 26 mk1 (fcells Kk1 Ak1), .own vrk2 2 26 mk2 (fcells Kk2 Ak2), .blk g2 [.int .i64 fa, .int .i64 fp, .int .i64 fb, .int .i64 fq]]) (m1 := [.blk g1 [.int .i64 0, .int .i64 0, .int .i64 0, .int .i64 0], .own va 1 3 m (ints f), .own vb 1 3 m (ints g), .own vrk1 2 26 mk1 (fcells Kk1 Ak1), .own vrk2 2 26 mk2 (fcells Kk2 Ak2)]) 11 mx_ hS (.cons_cons _ (.cons_cons _ (.cons_cons _ (.cons_cons _ (.cons_cons _ (.cons_cons _ .slnil)))))) (.cons_cons _ (.cons_cons _ (.cons_cons _ (.cons_cons _ (.cons_cons _ (.cons _ .slnil)))))) rfl ?_; clear hS; intro w hS hcl hB
          refine dr_val hF hcl hB 0 rfl (.free rfl) rfl rfl (by kernel_rfl) rfl (fun w => (ex_move rfl rfl)) ?_; clear hF a hcl hB; intro a hF hcl hB
          refine dr_val hF hcl hB 1 rfl (.free rfl) rfl rfl (by kernel_rfl) rfl (fun w => (ex_move rfl rfl)) ?_; clear hF a hcl hB; intro a hF hcl hB
          refine dr_val hF hcl hB 2 rfl (.free rfl) rfl rfl (by kernel_rfl) rfl (fun w => (ex_move rfl rfl)) ?_; clear hF a hcl hB; intro a hF hcl hB
          refine dr_val hF hcl hB 3 rfl (.free rfl) rfl rfl (by kernel_rfl) rfl (fun w => (ex_index (k := 2 * i) rfl sl_78 rfl rfl hslk1 (by omega) (by omega) (by omega))) ?_; clear hF a hcl hB; intro a hF hcl hB
          refine dr_loadA hF hcl hB 4 rfl (.free rfl) rfl rfl (by kernel_rfl) rfl (fun w hS => (ex_loads_row (cs := [.int .i64 (Kk1 i), .int .i64 (Ak1 i)]) rfl st_26 rfl (hS.rowN 3 rfl) (by omega) (by omega) rfl (by omega) (fcells_at Kk1 Ak1 (by omega)))) ?_; clear hF a hcl hB; intro a hF hcl hB
          refine dr_val hF hcl hB 5 rfl (.free rfl) rfl rfl (by kernel_rfl) rfl (fun w => (ex_move rfl rfl)) ?_; clear hF a hcl hB; intro a hF hcl hB
          refine dr_val hF hcl hB 6 rfl (.free rfl) rfl rfl (by kernel_rfl) rfl (fun w => (ex_move rfl rfl)) ?_; clear hF a hcl hB; intro a hF hcl hB
          refine dr_val hF hcl hB 7 rfl (.free rfl) rfl rfl (by kernel_rfl) rfl (fun w => (ex_index (k := 2 * j) rfl sl_78 rfl rfl hslk2 (by omega) (by omega) (by omega))) ?_; clear hF a hcl hB; intro a hF hcl hB
          refine dr_loadA hF hcl hB 8 rfl (.free rfl) rfl rfl (by kernel_rfl) rfl (fun w hS => (ex_loads_row (cs := [.int .i64 (Kk2 j), .int .i64 (Ak2 j)]) rfl st_26 rfl (hS.rowN 4 rfl) (by omega) (by omega) rfl (by omega) (fcells_at Kk2 Ak2 (by omega)))) ?_; clear hF a hcl hB; intro a hF hcl hB
          refine dr_val hF hcl hB 9 rfl (.free rfl) rfl rfl (by kernel_rfl) rfl (fun w => (ex_any (w' := w) (r := .value (.agg #[.int .i64 (Kk1 i), .int .i64 (Ak1 i), .int .i64 (Kk2 j), .int .i64 (Ak2 j)])) (by intro _ _ h; cases h) rfl (by kernel_rfl))) ?_; clear hF a hcl hB; intro a hF hcl hB
          refine dr_val hF hcl hB 10 rfl (.free rfl) rfl rfl (by kernel_rfl) rfl (fun w => (ex_assign rfl rfl)) ?_; clear hF a hcl hB; intro a hF hcl hB
          refine dr_effx hF hcl 11 rfl (.free rfl) rfl (by kernel_rfl) (st_blks 5 (ds := [.int .i64 (Kk1 i), .int .i64 (Ak1 i), .int .i64 (Kk2 j), .int .i64 (Ak2 j)]) rfl st_28 hS rfl rfl rfl rfl (ones_cons rfl (ones_cons rfl (ones_cons rfl (ones_cons rfl ones_nil))))) ?_; clear hS hB; rintro w hS hcl
          replace hS : Sat w0 w [.blk g1 [.int .i64 0, .int .i64 0, .int .i64 0, .int .i64 0], .own va 1 3 m (ints f), .own vb 1 3 m (ints g), .own vrk1 2 26 mk1 (fcells Kk1 Ak1), .own vrk2 2 26 mk2 (fcells Kk2 Ak2), .blk g2 [.int .i64 (Kk1 i), .int .i64 (Ak1 i), .int .i64 (Kk2 j), .int .i64 (Ak2 j)]] := hS
          refine ⟨⟨(fun h => absurd h (by decide)), hS.sub (.cons_cons _ (.cons_cons _ (.cons_cons _ (.cons_cons _ (.cons_cons _ (.cons _ .slnil))))))⟩, fun hB => ?_⟩
          refine dr_done (by kernel_rfl) ?_; clear hcl hB
          refine inb_normal ?_
          refine then_normal ?_
          refine wp_region_lit ?_
          refine ls_val hF (.free rfl) rfl rfl (ex_move rfl rfl) ?_; clear hF a; intro a hF
          refine ls_val hF (.free rfl) rfl rfl (ex_add (r := j + 1) rfl rfl rfl (by omega) (by unfold I64; omega)) ?_; clear hF a; intro a hF
          refine ls_val hF (.free rfl) rfl rfl (ex_assign rfl rfl) ?_; clear hF a; intro a hF
          refine ls_nil ?_
          refine then_normal ?_
          refine ⟨_, (by omega), az2, (Kk1 i), (Ak1 i), (Kk2 j), (Ak2 j), j + 1, rfl, (by omega), (by omega), ?_, (hF.pick (hF.pick (hF.pick (hF.pick (hF.pick (hF.pick (hF.pick (hF.pick (hF.pick (hF.pick (hF.pick (hF.pick (hF.pick hF.nil 20 rfl) 19 rfl) 18 rfl) 17 rfl) 16 rfl) 11 rfl) 10 rfl) 9 rfl) 8 rfl) 3 rfl) 2 rfl) 1 rfl) 0 rfl), hS⟩
          ·
           first | exact hb.moreV h0 j0 (hfA.at h0 (by omega)) (hfB.at j0 (by omega)) (hvz) hc | exact hb.stayV h0 j0 (hfA.at h0 (by omega)) (hfB.at j0 (by omega)) (val_nonneg hk (ok_of hcA hcB (hfA.at h0 (by omega)) (hfB.at j0 (by omega))) hn hng) (hvz) hc
         ·
          refine wp_skip ?_
          refine inb_normal ?_
          refine then_normal ?_
          refine wp_region_lit ?_
          refine ls_val hF (.free rfl) rfl rfl (ex_move rfl rfl) ?_; clear hF a; intro a hF
          refine ls_val hF (.free rfl) rfl rfl (ex_add (r := j + 1) rfl rfl rfl (by omega) (by unfold I64; omega)) ?_; clear hF a; intro a hF
          refine ls_val hF (.free rfl) rfl rfl (ex_assign rfl rfl) ?_; clear hF a; intro a hF
          refine ls_nil ?_
          refine then_normal ?_
          refine ⟨_, (by omega), best, fa, fp, fb, fq, j + 1, rfl, (by omega), (by omega), ?_, (hF.pick (hF.pick (hF.pick (hF.pick (hF.pick (hF.pick (hF.pick (hF.pick (hF.pick (hF.pick (hF.pick (hF.pick (hF.pick hF.nil 20 rfl) 19 rfl) 18 rfl) 17 rfl) 16 rfl) 11 rfl) 10 rfl) 9 rfl) 8 rfl) 3 rfl) 2 rfl) 1 rfl) 0 rfl), hS⟩
          ·
           first | exact hb.moreV h0 j0 (hfA.at h0 (by omega)) (hfB.at j0 (by omega)) (hvz) hc | exact hb.stayV h0 j0 (hfA.at h0 (by omega)) (hfB.at j0 (by omega)) (val_nonneg hk (ok_of hcA hcB (hfA.at h0 (by omega)) (hfB.at j0 (by omega))) hn hng) (hvz) hc
        ·
         refine wp_exit ?_
         refine then_exit ?_
         refine then_exit ?_
         refine inb_hit ?_
         refine inb_normal ?_
         refine then_normal ?_
         refine wp_region_lit ?_
         refine ls_val hF (.free rfl) rfl rfl (ex_move rfl rfl) ?_; clear hF a; intro a hF
         refine ls_val hF (.free rfl) rfl rfl (ex_add (r := i + 1) rfl rfl rfl (by omega) (by unfold I64; omega)) ?_; clear hF a; intro a hF
         refine ls_val hF (.free rfl) rfl rfl (ex_assign rfl rfl) ?_; clear hF a; intro a hF
         refine ls_nil ?_
         refine then_normal ?_
         refine ⟨_, (by omega), best, fa, fp, fb, fq, i + 1, rfl, (by omega), (by omega), ?_, (hF.pick (hF.pick (hF.pick (hF.pick (hF.pick (hF.pick (hF.pick (hF.pick (hF.pick (hF.pick (hF.pick (hF.pick hF.nil 19 rfl) 18 rfl) 17 rfl) 16 rfl) 11 rfl) 10 rfl) 9 rfl) 8 rfl) 3 rfl) 2 rfl) 1 rfl) 0 rfl), hS⟩
         ·
          exact hb.rowE (by omega) (by omega)
      ·
       refine wp_exit ?_
       refine then_exit ?_
       refine then_exit ?_
       refine inb_hit ?_
       refine then_normal ?_
       refine cw_seq ?_
       refine dr_sat (m0 := [.blk g1 [.int .i64 0, .int .i64 0, .int .i64 0, .int .i64 0], .own va 1 3 m (ints f), .own vb 1 3 m (ints g), .own vrk1 2 26 mk1 (fcells Kk1 Ak1), .own vrk2 2 26 mk2 (fcells Kk2 Ak2), .blk g2 [.int .i64 fa, .int .i64 fp, .int .i64 fb, .int .i64 fq]]) (m1 := [.own va 1 3 m (ints f), .own vb 1 3 m (ints g), .own vrk1 2 26 mk1 (fcells Kk1 Ak1), .own vrk2 2 26 mk2 (fcells Kk2 Ak2), .blk g2 [.int .i64 fa, .int .i64 fp, .int .i64 fb, .int .i64 fq]]) 3 mx_ hS (.cons_cons _ (.cons_cons _ (.cons_cons _ (.cons_cons _ (.cons_cons _ (.cons_cons _ .slnil)))))) (.cons _ (.cons_cons _ (.cons_cons _ (.cons_cons _ (.cons_cons _ (.cons_cons _ .slnil)))))) rfl ?_; clear hS; intro w hS hcl hB
       refine dr_val hF hcl hB 0 rfl (.free rfl) rfl rfl (by kernel_rfl) rfl (fun w => (ex_move rfl rfl)) ?_; clear hF a hcl hB; intro a hF hcl hB
       refine dr_loadA hF hcl hB 1 rfl (.free rfl) rfl rfl (by kernel_rfl) rfl (fun w hS => (ex_loads_blk 4 rfl st_28 rfl hS rfl rfl)) ?_; clear hF a hcl hB; intro a hF hcl hB
       refine dr_val hF hcl hB 2 rfl (.free rfl) rfl rfl (by kernel_rfl) rfl (fun w => (ex_assign rfl rfl)) ?_; clear hF a hcl hB; intro a hF hcl hB
       refine dr_effx hF hcl 3 rfl (.free rfl) rfl (by kernel_rfl) (st_blks 0 (ds := [.int .i64 fa, .int .i64 fp, .int .i64 fb, .int .i64 fq]) rfl st_28 hS rfl rfl rfl rfl (ones_cons rfl (ones_cons rfl (ones_cons rfl (ones_cons rfl ones_nil))))) ?_; clear hS hB; rintro w hS hcl
       replace hS : Sat w0 w [.blk g1 [.int .i64 fa, .int .i64 fp, .int .i64 fb, .int .i64 fq], .own va 1 3 m (ints f), .own vb 1 3 m (ints g), .own vrk1 2 26 mk1 (fcells Kk1 Ak1), .own vrk2 2 26 mk2 (fcells Kk2 Ak2), .blk g2 [.int .i64 fa, .int .i64 fp, .int .i64 fb, .int .i64 fq]] := hS
       refine ⟨⟨(fun h => absurd h (by decide)), hS.sub (.cons _ (.cons_cons _ (.cons_cons _ (.cons_cons _ (.cons_cons _ (.cons_cons _ .slnil))))))⟩, fun hB => ?_⟩
       refine dr_val hF hcl hB 4 rfl (.free rfl) rfl rfl (by kernel_rfl) rfl (fun w => (ex_assign rfl rfl)) ?_; clear hF a hcl hB; intro a hF hcl hB
       refine dr_done (by kernel_rfl) ?_; clear hcl hB
       refine then_normal ?_
       refine wp_ret ?_
       refine (fin_tct 0 hF rfl rfl rfl rfl st_28 hS rfl rfl ⟨_, rfl, ?_⟩)
       exact ⟨_, _, _, _, _, _, rfl, .inr (.inr ⟨hk, hng, rfl, hcA, hcB, hb.finE (by omega) (by omega)⟩), hS.sub (.cons _ (.cons _ (.cons _ (.cons _ (.cons _ (.cons _ .slnil))))))⟩

end Go.Proofs.Ytmlfpniaknmmfaa
