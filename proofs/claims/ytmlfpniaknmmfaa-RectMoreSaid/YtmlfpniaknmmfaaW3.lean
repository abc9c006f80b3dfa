/- The walks of the values of certificates, of rectbound. -/
import Derived.Test.YtmlfpniaknmmfaaW2
namespace Go.Proofs.Ytmlfpniaknmmfaa
open Go Go.RowKit Go.Proofs.Gw
set_option linter.unusedVariables false

theorem cl_23 : calledT Try.prog 23 = true := by kernel_rfl
theorem cl_25 : calledT Try.prog 25 = true := by kernel_rfl
theorem el_60 : elemT Try.prog 60 = some (.agg #[.int .i64 0, .int .i64 0, .int .i64 0], 3, 24) := by kernel_rfl
theorem el_62 : elemT Try.prog 62 = some (.agg #[.int .i64 0, .int .i64 0, .int .i64 0], 3, 24) := by kernel_rfl
theorem fd_36_0 : fieldT Try.prog 36 0 = some 0 := by kernel_rfl
theorem fd_36_1 : fieldT Try.prog 36 1 = some 2 := by kernel_rfl
theorem fd_62_0 : fieldT Try.prog 62 0 = some 0 := by kernel_rfl
theorem fd_62_1 : fieldT Try.prog 62 1 = some 1 := by kernel_rfl
theorem fd_62_2 : fieldT Try.prog 62 2 = some 2 := by kernel_rfl
theorem mx_ : Try.prog.follows .mixedOrders = true := by kernel_rfl
theorem sl_22 : sliceT Try.prog 22 = some (62, 3) := by kernel_rfl
theorem st_36 : structT Try.prog 36 = some 4 := by kernel_rfl
theorem st_62 : structT Try.prog 62 = some 3 := by kernel_rfl
set_option maxRecDepth 20000 in
theorem c_value {x : Crt} {vD : Value} {d : Dem} {s : Sht} (w0 : World) (hD : DAt w0 vD d.n d.W d.H d.N) (hk : DOk d s) (hok : x.ok s) (hg : ∀ k, 0 ≤ k → k < d.n → ¬ d.great s k) :
    Calls Try.prog 25 [.agg #[.int .i64 x.a, .int .i64 x.p, .int .i64 x.b, .int .i64 x.q], vD, .int .i64 s.w, .int .i64 s.h, .int .i64 s.kf].toArray w0 fun e w => ∃ v, e = .returned v ∧ v = .int .i64 (x.val d s) ∧ Sat w0 w [] := by
  have hn := hD.row.slh.n0
  have b2 := hk.w1
  have b3 := hk.w2
  have b4 := hk.h1
  have b5 := hk.h2
  have b6 := hk.k1
  have b7 := hk.k2
  have b8 := hk.few
  have hkd1 : 0 ≤ x.a ∧ x.a ≤ 2 := by have := hok.1; unfold okF at this; omega
  have hkd2 : 0 ≤ x.b ∧ x.b ≤ 2 := by have := hok.2; unfold okF at this; omega
  refine enterS (vs := [.agg #[.int .i64 x.a, .int .i64 x.p, .int .i64 x.b, .int .i64 x.q], vD, .int .i64 s.w, .int .i64 s.h, .int .i64 s.kf]) Try.func25 rfl Try.ntmps25 rfl ?_
  intro a w hS hF
  refine cw_seq ?_
  refine wp_region_lit ?_
  refine ls_any hF (.free rfl) rfl rfl (ex_box (cs := [.int .i64 x.a, .int .i64 x.p, .int .i64 x.b, .int .i64 x.q]) rfl hS rfl rfl) ?_; clear hF; rintro _ w ⟨g1, rfl, hS⟩ a hF
  replace hS : Sat w0 w [.blk g1 [.int .i64 x.a, .int .i64 x.p, .int .i64 x.b, .int .i64 x.q]] := hS
  refine ls_val hF (.free rfl) rfl rfl (ex_assign rfl rfl) ?_; clear hF a; intro a hF
  refine ls_nil ?_
  refine then_normal ?_
  refine cw_seq ?_
  refine dr_sat (m0 := [.blk g1 [.int .i64 x.a, .int .i64 x.p, .int .i64 x.b, .int .i64 x.q]]) (m1 := [.blk g1 [.int .i64 x.a, .int .i64 x.p, .int .i64 x.b, .int .i64 x.q]]) 1000 mx_ hS (.cons_cons _ .slnil) (.cons_cons _ .slnil) rfl ?_; clear hS; intro w hS hcl hB
  refine dr_val hF hcl hB 0 rfl (.free rfl) rfl rfl (by kernel_rfl) rfl (fun w => (ex_field (b := ⟨g1, 0, none⟩) rfl fd_36_0 rfl rfl)) ?_; clear hF a hcl hB; intro a hF hcl hB
  refine dr_loadA hF hcl hB 1 rfl (.free rfl) rfl rfl (by kernel_rfl) rfl (fun w hS => (ex_loads_part 0 rfl st_34 rfl hS rfl rfl rfl)) ?_; clear hF a hcl hB; intro a hF hcl hB
  refine dr_val hF hcl hB 3 rfl (.free rfl) rfl rfl (by kernel_rfl) rfl (fun w => (ex_field (b := ⟨g1, 2, none⟩) rfl fd_36_1 rfl rfl)) ?_; clear hF a hcl hB; intro a hF hcl hB
  refine dr_loadA hF hcl hB 4 rfl (.free rfl) rfl rfl (by kernel_rfl) rfl (fun w hS => (ex_loads_part 0 rfl st_34 rfl hS rfl rfl rfl)) ?_; clear hF a hcl hB; intro a hF hcl hB
  refine dr_call hF hcl 2 rfl (.free rfl) rfl rfl (by kernel_rfl) (ex_call0 rfl rfl cl_33 (args_cons rfl args0)) (c_dual (kind := x.a) (k := x.p) w (by omega) (by omega)) ?_; clear hF hB; rintro _ w ⟨td1, ud1, rfl, ⟨⟨fvd1, hmvd1, hcvd1⟩, ⟨fad1, hmad1, hcad1⟩⟩, hS'⟩ a hF hcl
  replace hS : Sat w0 w [.blk g1 [.int .i64 x.a, .int .i64 x.p, .int .i64 x.b, .int .i64 x.q]] := hS.comp hS'; clear hS'
  refine ⟨⟨(fun _ => hS.sub (.cons_cons _ .slnil)), hS.sub (.cons_cons _ .slnil)⟩, fun hB => ?_⟩
  refine dr_call hF hcl 5 rfl (.free rfl) rfl rfl (by kernel_rfl) (ex_call0 rfl rfl cl_33 (args_cons rfl args0)) (c_dual (kind := x.b) (k := x.q) w (by omega) (by omega)) ?_; clear hF hB; rintro _ w ⟨td2, ud2, rfl, ⟨⟨fvd2, hmvd2, hcvd2⟩, ⟨fad2, hmad2, hcad2⟩⟩, hS'⟩ a hF hcl
  replace hS : Sat w0 w [.blk g1 [.int .i64 x.a, .int .i64 x.p, .int .i64 x.b, .int .i64 x.q]] := hS.comp hS'; clear hS'
  refine ⟨⟨(fun _ => hS.sub (.cons_cons _ .slnil)), hS.sub (.cons_cons _ .slnil)⟩, fun hB => ?_⟩
  refine dr_val hF hcl hB 6 rfl (.free rfl) rfl rfl (by kernel_rfl) rfl (fun w => (ex_assign rfl rfl)) ?_; clear hF a hcl hB; intro a hF hcl hB
  refine dr_val hF hcl hB 7 rfl (.free rfl) rfl rfl (by kernel_rfl) rfl (fun w => (ex_assign rfl rfl)) ?_; clear hF a hcl hB; intro a hF hcl hB
  refine dr_done (by kernel_rfl) ?_; clear hcl hB
  refine then_normal ?_
  refine cw_seq ?_
  refine wp_region_lit ?_
  refine ls_val hF (.free rfl) rfl rfl (ex_assign rfl rfl) ?_; clear hF a; intro a hF
  refine ls_nil ?_
  refine then_normal ?_
  refine cw_seq ?_
  refine cw_seq ?_
  refine wp_region_lit ?_
  refine ls_val hF (.free rfl) rfl rfl (ex_move rfl rfl) ?_; clear hF a; intro a hF
  refine ls_val hF (.free rfl) rfl rfl (ex_len rfl sl_38 rfl hD.row.slh) ?_; clear hF a; intro a hF
  refine ls_val hF (.free rfl) rfl rfl (ex_move rfl rfl) ?_; clear hF a; intro a hF
  refine ls_nil ?_
  refine then_normal ?_
  refine wp_block ?_
  refine cw_loop (fun mm a w => ∃ (t : Int) (i : Int), mm = ((d.n - i).toNat) ∧ (0 ≤ i) ∧ (i ≤ d.n) ∧ (t = x.sum d s i.toNat) ∧ Fr a 80 [(2, .int .i64 s.w), (3, .int .i64 s.h), (4, .int .i64 s.kf), (10, .int .i64 0), (11, .iface td1 ud1), (12, .iface td2 ud2), (13, .int .i64 t), (23, vD), (24, .int .i64 d.n), (25, .int .i64 i)] ∧ Sat w0 w [.blk g1 [.int .i64 x.a, .int .i64 x.p, .int .i64 x.b, .int .i64 x.q]]) ?_ ?_ (m := ((d.n - 0).toNat))
  ·
   refine ⟨0, 0, rfl, (by omega), (by omega), ?_, (hF.pick (hF.pick (hF.pick (hF.pick (hF.pick (hF.pick (hF.pick (hF.pick (hF.pick (hF.pick hF.nil 25 rfl) 24 rfl) 23 rfl) 13 rfl) 12 rfl) 11 rfl) 10 rfl) 4 rfl) 3 rfl) 2 rfl), hS⟩
   ·
    rfl
  ·
   clear hF hS a w
   rintro mm a w ⟨t, i, rfl, h0, h1, ht, hF, hS⟩
   refine cw_seq ?_
   refine wp_region_lit ?_
   refine ls_val hF (.free rfl) rfl rfl (ex_lss rfl rfl rfl) ?_; clear hF a; intro a hF
   refine ls_nil ?_
   refine then_normal ?_
   refine cw_seq ?_
   refine cw_if hF rfl (fun hc => ?_) (fun hc => ?_)
   ·
    refine wp_skip ?_
    refine then_normal ?_
    refine cw_seq ?_
    refine wp_block ?_
    refine cw_seq ?_
    refine wp_region_lit ?_
    refine ls_val hF (.free rfl) rfl rfl (ex_index (k := 3 * i) rfl sl_38 rfl rfl hD.row.slh (by omega) (by omega) (by omega)) ?_; clear hF a; intro a hF
    refine ls_val hF (.free rfl) rfl rfl (ex_loads_row (cs := [.int .i64 (d.W i), .int .i64 (d.H i), .int .i64 (d.N i)]) rfl st_60 rfl (hD.row.below hS.below) (by omega) (by omega) rfl (by omega) (dcells_at d.W d.H d.N (by omega))) ?_; clear hF a; intro a hF
    have hbv := hD.bw i
    have hbv := hD.bh i
    have hbv := hD.bn i
    refine ls_any hF (.free rfl) rfl rfl (ex_alloc (cs := [.int .i64 0, .int .i64 0, .int .i64 0]) rfl el_60 hS rfl) ?_; clear hF; rintro _ w ⟨g2, rfl, hS⟩ a hF
    replace hS : Sat w0 w [.blk g1 [.int .i64 x.a, .int .i64 x.p, .int .i64 x.b, .int .i64 x.q], .blk g2 [.int .i64 0, .int .i64 0, .int .i64 0]] := hS
    refine ls_effx hF (.free rfl) rfl (st_blks 1 (ds := [.int .i64 (d.W i), .int .i64 (d.H i), .int .i64 (d.N i)]) rfl st_60 hS rfl rfl rfl rfl (ones_cons rfl (ones_cons rfl (ones_cons rfl ones_nil)))) ?_; clear hS; rintro w hS
    replace hS : Sat w0 w [.blk g1 [.int .i64 x.a, .int .i64 x.p, .int .i64 x.b, .int .i64 x.q], .blk g2 [.int .i64 (d.W i), .int .i64 (d.H i), .int .i64 (d.N i)]] := hS
    refine ls_nil ?_
    refine then_normal ?_
    refine cw_seq ?_
    refine wp_region_lit ?_
    refine ls_val hF (.free rfl) rfl rfl (ex_field (b := ⟨g2, 2, none⟩) rfl fd_60_2 rfl rfl) ?_; clear hF a; intro a hF
    refine ls_val hF (.free rfl) rfl rfl (ex_load_blk 1 rfl pl_3 rfl hS rfl rfl) ?_; clear hF a; intro a hF
    have hsb := sum_bd hk hok h0 (by omega : i ≤ d.n) (fun k a0 a1 => hg k a0 (by omega))
    refine ls_val hF (.free rfl) rfl rfl (ex_gtr rfl rfl rfl) ?_; clear hF a; intro a hF
    refine ls_nil ?_
    refine then_normal ?_
    refine cw_if hF rfl (fun hc => ?_) (fun hc => ?_)
    ·
     refine dr_sat (m0 := [.blk g1 [.int .i64 x.a, .int .i64 x.p, .int .i64 x.b, .int .i64 x.q], .blk g2 [.int .i64 (d.W i), .int .i64 (d.H i), .int .i64 (d.N i)]]) (m1 := [.blk g1 [.int .i64 x.a, .int .i64 x.p, .int .i64 x.b, .int .i64 x.q], .blk g2 [.int .i64 (d.W i), .int .i64 (d.H i), .int .i64 (d.N i)]]) 1000 mx_ hS (.cons_cons _ (.cons_cons _ .slnil)) (.cons_cons _ (.cons_cons _ .slnil)) rfl ?_; clear hS; intro w hS hcl hB
     refine dr_val hF hcl hB 0 rfl (.free rfl) rfl rfl (by kernel_rfl) rfl (fun w => (ex_move rfl rfl)) ?_; clear hF a hcl hB; intro a hF hcl hB
     have hei := hk.all i h0 (by omega); unfold Dem.each at hei; have hti := term_bd hk hok h0 (by omega) (by omega) (hg i h0 (by omega)); have hfi := fits_of hk h0 (by omega : i < d.n) (by omega) (hg i h0 (by omega)); unfold Crt.term Crt.f Crt.g at hti
     refine dr_val hF hcl hB 1 rfl (.free rfl) rfl rfl (by kernel_rfl) rfl (fun w => (ex_field (b := ⟨g2, 2, none⟩) rfl fd_60_2 rfl rfl)) ?_; clear hF a hcl hB; intro a hF hcl hB
     refine dr_loadA hF hcl hB 2 rfl (.free rfl) rfl rfl (by kernel_rfl) rfl (fun w hS => (ex_load_blk 1 rfl pl_3 rfl hS rfl rfl)) ?_; clear hF a hcl hB; intro a hF hcl hB
     refine dr_val hF hcl hB 3 rfl (.free rfl) rfl rfl (by kernel_rfl) rfl (fun w => (ex_move rfl rfl)) ?_; clear hF a hcl hB; intro a hF hcl hB
     refine dr_val hF hcl hB 4 rfl (.free rfl) rfl rfl (by kernel_rfl) rfl (fun w => (ex_field (b := ⟨g2, 0, none⟩) rfl fd_60_0 rfl rfl)) ?_; clear hF a hcl hB; intro a hF hcl hB
     refine dr_loadA hF hcl hB 5 rfl (.free rfl) rfl rfl (by kernel_rfl) rfl (fun w hS => (ex_load_blk 1 rfl pl_3 rfl hS rfl rfl)) ?_; clear hF a hcl hB; intro a hF hcl hB
     refine dr_val hF hcl hB 6 rfl (.free rfl) rfl rfl (by kernel_rfl) rfl (fun w => (ex_move rfl rfl)) ?_; clear hF a hcl hB; intro a hF hcl hB
     refine dr_val hF hcl hB 7 rfl (.free rfl) rfl rfl (by kernel_rfl) rfl (fun w => (ex_add (r := (d.W i) + s.kf) rfl rfl rfl (by omega) (by unfold I64; omega))) ?_; clear hF a hcl hB; intro a hF hcl hB
     refine dr_val hF hcl hB 8 rfl (.free rfl) rfl rfl (by kernel_rfl) rfl (fun w => (ex_move rfl rfl)) ?_; clear hF a hcl hB; intro a hF hcl hB
     refine dr_val hF hcl hB 9 rfl (.free rfl) rfl rfl (by kernel_rfl) rfl (fun w => (ex_move rfl rfl)) ?_; clear hF a hcl hB; intro a hF hcl hB
     refine dr_val hF hcl hB 10 rfl (.free rfl) rfl rfl (by kernel_rfl) rfl (fun w => (ex_add (r := s.w + s.kf) rfl rfl rfl (by omega) (by unfold I64; omega))) ?_; clear hF a hcl hB; intro a hF hcl hB
     refine dr_val hF hcl hB 13 rfl (.free rfl) rfl rfl (by kernel_rfl) rfl (fun w => (ex_move rfl rfl)) ?_; clear hF a hcl hB; intro a hF hcl hB
     refine dr_val hF hcl hB 14 rfl (.free rfl) rfl rfl (by kernel_rfl) rfl (fun w => (ex_field (b := ⟨g2, 1, none⟩) rfl fd_60_1 rfl rfl)) ?_; clear hF a hcl hB; intro a hF hcl hB
     refine dr_loadA hF hcl hB 15 rfl (.free rfl) rfl rfl (by kernel_rfl) rfl (fun w hS => (ex_load_blk 1 rfl pl_3 rfl hS rfl rfl)) ?_; clear hF a hcl hB; intro a hF hcl hB
     refine dr_val hF hcl hB 16 rfl (.free rfl) rfl rfl (by kernel_rfl) rfl (fun w => (ex_move rfl rfl)) ?_; clear hF a hcl hB; intro a hF hcl hB
     refine dr_val hF hcl hB 17 rfl (.free rfl) rfl rfl (by kernel_rfl) rfl (fun w => (ex_add (r := (d.H i) + s.kf) rfl rfl rfl (by omega) (by unfold I64; omega))) ?_; clear hF a hcl hB; intro a hF hcl hB
     refine dr_val hF hcl hB 18 rfl (.free rfl) rfl rfl (by kernel_rfl) rfl (fun w => (ex_move rfl rfl)) ?_; clear hF a hcl hB; intro a hF hcl hB
     refine dr_val hF hcl hB 19 rfl (.free rfl) rfl rfl (by kernel_rfl) rfl (fun w => (ex_move rfl rfl)) ?_; clear hF a hcl hB; intro a hF hcl hB
     refine dr_val hF hcl hB 20 rfl (.free rfl) rfl rfl (by kernel_rfl) rfl (fun w => (ex_add (r := s.h + s.kf) rfl rfl rfl (by omega) (by unfold I64; omega))) ?_; clear hF a hcl hB; intro a hF hcl hB
     refine dr_call hF hcl 11 rfl (.free rfl) rfl rfl (by kernel_rfl) (ex_invoke rfl rfl hmad1 (args_cons rfl (args_cons rfl args0))) (hcad1 ((d.W i) + s.kf) (s.w + s.kf) w hok.1 (by omega) (by omega) (by omega) (by omega)) ?_; clear hF hB; rintro _ w ⟨rfl, hS'⟩ a hF hcl
     replace hS : Sat w0 w [.blk g1 [.int .i64 x.a, .int .i64 x.p, .int .i64 x.b, .int .i64 x.q], .blk g2 [.int .i64 (d.W i), .int .i64 (d.H i), .int .i64 (d.N i)]] := hS.comp hS'; clear hS'
     refine ⟨⟨(fun _ => hS.sub (.cons_cons _ (.cons_cons _ .slnil))), hS.sub (.cons_cons _ (.cons_cons _ .slnil))⟩, fun hB => ?_⟩
     refine dr_val hF hcl hB 12 rfl (.free rfl) rfl rfl (by kernel_rfl) rfl (fun w => (ex_mul (r := ((d.N i) * (dfv x.a x.p ((d.W i) + s.kf) (s.w + s.kf)))) rfl rfl rfl rfl (by unfold I64; omega))) ?_; clear hF a hcl hB; intro a hF hcl hB
     refine dr_call hF hcl 21 rfl (.free rfl) rfl rfl (by kernel_rfl) (ex_invoke rfl rfl hmad2 (args_cons rfl (args_cons rfl args0))) (hcad2 ((d.H i) + s.kf) (s.h + s.kf) w hok.2 (by omega) (by omega) (by omega) (by omega)) ?_; clear hF hB; rintro _ w ⟨rfl, hS'⟩ a hF hcl
     replace hS : Sat w0 w [.blk g1 [.int .i64 x.a, .int .i64 x.p, .int .i64 x.b, .int .i64 x.q], .blk g2 [.int .i64 (d.W i), .int .i64 (d.H i), .int .i64 (d.N i)]] := hS.comp hS'; clear hS'
     refine ⟨⟨(fun _ => hS.sub (.cons_cons _ (.cons_cons _ .slnil))), hS.sub (.cons_cons _ (.cons_cons _ .slnil))⟩, fun hB => ?_⟩
     refine dr_val hF hcl hB 22 rfl (.free rfl) rfl rfl (by kernel_rfl) rfl (fun w => (ex_mul (r := (((d.N i) * (dfv x.a x.p ((d.W i) + s.kf) (s.w + s.kf))) * (dfv x.b x.q ((d.H i) + s.kf) (s.h + s.kf)))) rfl rfl rfl rfl (by unfold I64; omega))) ?_; clear hF a hcl hB; intro a hF hcl hB
     refine dr_val hF hcl hB 23 rfl (.free rfl) rfl rfl (by kernel_rfl) rfl (fun w => (ex_add (r := t + (((d.N i) * (dfv x.a x.p ((d.W i) + s.kf) (s.w + s.kf))) * (dfv x.b x.q ((d.H i) + s.kf) (s.h + s.kf)))) rfl rfl rfl (by omega) (by unfold I64; omega))) ?_; clear hF a hcl hB; intro a hF hcl hB
     refine dr_val hF hcl hB 24 rfl (.free rfl) rfl rfl (by kernel_rfl) rfl (fun w => (ex_assign rfl rfl)) ?_; clear hF a hcl hB; intro a hF hcl hB
     refine dr_done (by kernel_rfl) ?_; clear hcl hB
     refine inb_normal ?_
     refine then_normal ?_
     refine wp_region_lit ?_
     refine ls_val hF (.free rfl) rfl rfl (ex_add (r := i + 1) rfl rfl rfl (by omega) (by unfold I64; omega)) ?_; clear hF a; intro a hF
     refine ls_val hF (.free rfl) rfl rfl (ex_move rfl rfl) ?_; clear hF a; intro a hF
     refine ls_nil ?_
     refine then_normal ?_
     refine ⟨_, (by omega), t + (((d.N i) * (dfv x.a x.p ((d.W i) + s.kf) (s.w + s.kf))) * (dfv x.b x.q ((d.H i) + s.kf) (s.h + s.kf))), i + 1, rfl, (by omega), (by omega), ?_, (hF.pick (hF.pick (hF.pick (hF.pick (hF.pick (hF.pick (hF.pick (hF.pick (hF.pick (hF.pick hF.nil 25 rfl) 24 rfl) 23 rfl) 13 rfl) 12 rfl) 11 rfl) 10 rfl) 4 rfl) 3 rfl) 2 rfl), hS.sub (.cons_cons _ (.cons _ .slnil))⟩
     ·
      rw [sum_next x d s h0, ← ht]; first | rfl | (rw [term_zero hk h0 (by omega) (by omega)]; omega)
    ·
     refine wp_skip ?_
     refine inb_normal ?_
     refine then_normal ?_
     refine wp_region_lit ?_
     refine ls_val hF (.free rfl) rfl rfl (ex_add (r := i + 1) rfl rfl rfl (by omega) (by unfold I64; omega)) ?_; clear hF a; intro a hF
     refine ls_val hF (.free rfl) rfl rfl (ex_move rfl rfl) ?_; clear hF a; intro a hF
     refine ls_nil ?_
     refine then_normal ?_
     refine ⟨_, (by omega), t, i + 1, rfl, (by omega), (by omega), ?_, (hF.pick (hF.pick (hF.pick (hF.pick (hF.pick (hF.pick (hF.pick (hF.pick (hF.pick (hF.pick hF.nil 25 rfl) 24 rfl) 23 rfl) 13 rfl) 12 rfl) 11 rfl) 10 rfl) 4 rfl) 3 rfl) 2 rfl), hS.sub (.cons_cons _ (.cons _ .slnil))⟩
     ·
      rw [sum_next x d s h0, ← ht]; first | rfl | (rw [term_zero hk h0 (by omega) (by omega)]; omega)
   ·
    refine wp_exit ?_
    refine then_exit ?_
    refine then_exit ?_
    refine inb_hit ?_
    refine then_normal ?_
    refine cw_seq ?_
    refine wp_region_lit ?_
    refine ls_val hF (.free rfl) rfl rfl (ex_move rfl rfl) ?_; clear hF a; intro a hF
    have htp := top_bd hk hok; unfold Crt.top Crt.f Crt.g at htp
    have hsb := sum_bd hk hok h0 (by omega : i ≤ d.n) (fun k a0 a1 => hg k a0 (by omega)); have hqf := quo_facts (a := t + dfv x.a x.p (s.w + s.kf) (s.w + s.kf) * dfv x.b x.q (s.h + s.kf) (s.h + s.kf) - 1) (b := dfv x.a x.p (s.w + s.kf) (s.w + s.kf) * dfv x.b x.q (s.h + s.kf) (s.h + s.kf)) (by omega) (by omega)
    refine ls_val hF (.free rfl) rfl rfl (ex_move rfl rfl) ?_; clear hF a; intro a hF
    refine ls_val hF (.free rfl) rfl rfl (ex_move rfl rfl) ?_; clear hF a; intro a hF
    refine ls_val hF (.free rfl) rfl rfl (ex_add (r := s.w + s.kf) rfl rfl rfl (by omega) (by unfold I64; omega)) ?_; clear hF a; intro a hF
    refine ls_val hF (.free rfl) rfl rfl (ex_move rfl rfl) ?_; clear hF a; intro a hF
    refine ls_val hF (.free rfl) rfl rfl (ex_move rfl rfl) ?_; clear hF a; intro a hF
    refine ls_val hF (.free rfl) rfl rfl (ex_add (r := s.w + s.kf) rfl rfl rfl (by omega) (by unfold I64; omega)) ?_; clear hF a; intro a hF
    refine ls_call hF (.free rfl) rfl rfl (ex_invoke rfl rfl hmad1 (args_cons rfl (args_cons rfl args0))) (hcad1 (s.w + s.kf) (s.w + s.kf) w hok.1 (by omega) (by omega) (by omega) (by omega)) ?_; clear hF; rintro _ w ⟨rfl, hS'⟩ a hF
    replace hS : Sat w0 w [.blk g1 [.int .i64 x.a, .int .i64 x.p, .int .i64 x.b, .int .i64 x.q]] := hS.comp hS'; clear hS'
    refine ls_val hF (.free rfl) rfl rfl (ex_move rfl rfl) ?_; clear hF a; intro a hF
    refine ls_val hF (.free rfl) rfl rfl (ex_move rfl rfl) ?_; clear hF a; intro a hF
    refine ls_val hF (.free rfl) rfl rfl (ex_move rfl rfl) ?_; clear hF a; intro a hF
    refine ls_val hF (.free rfl) rfl rfl (ex_add (r := s.h + s.kf) rfl rfl rfl (by omega) (by unfold I64; omega)) ?_; clear hF a; intro a hF
    refine ls_val hF (.free rfl) rfl rfl (ex_move rfl rfl) ?_; clear hF a; intro a hF
    refine ls_val hF (.free rfl) rfl rfl (ex_move rfl rfl) ?_; clear hF a; intro a hF
    refine ls_val hF (.free rfl) rfl rfl (ex_add (r := s.h + s.kf) rfl rfl rfl (by omega) (by unfold I64; omega)) ?_; clear hF a; intro a hF
    refine ls_call hF (.free rfl) rfl rfl (ex_invoke rfl rfl hmad2 (args_cons rfl (args_cons rfl args0))) (hcad2 (s.h + s.kf) (s.h + s.kf) w hok.2 (by omega) (by omega) (by omega) (by omega)) ?_; clear hF; rintro _ w ⟨rfl, hS'⟩ a hF
    replace hS : Sat w0 w [.blk g1 [.int .i64 x.a, .int .i64 x.p, .int .i64 x.b, .int .i64 x.q]] := hS.comp hS'; clear hS'
    refine ls_val hF (.free rfl) rfl rfl (ex_mul (r := ((dfv x.a x.p (s.w + s.kf) (s.w + s.kf)) * (dfv x.b x.q (s.h + s.kf) (s.h + s.kf)))) rfl rfl rfl rfl (by unfold I64; omega)) ?_; clear hF a; intro a hF
    refine ls_val hF (.free rfl) rfl rfl (ex_assign rfl rfl) ?_; clear hF a; intro a hF
    refine ls_nil ?_
    refine then_normal ?_
    refine cw_seq ?_
    refine wp_region_lit ?_
    refine ls_val hF (.free rfl) rfl rfl (ex_move rfl rfl) ?_; clear hF a; intro a hF
    refine ls_val hF (.free rfl) rfl rfl (ex_move rfl rfl) ?_; clear hF a; intro a hF
    refine ls_val hF (.free rfl) rfl rfl (ex_add (r := t + ((dfv x.a x.p (s.w + s.kf) (s.w + s.kf)) * (dfv x.b x.q (s.h + s.kf) (s.h + s.kf)))) rfl rfl rfl (by omega) (by unfold I64; omega)) ?_; clear hF a; intro a hF
    refine ls_val hF (.free rfl) rfl rfl (ex_sub (r := t + ((dfv x.a x.p (s.w + s.kf) (s.w + s.kf)) * (dfv x.b x.q (s.h + s.kf) (s.h + s.kf))) - 1) rfl rfl rfl (by omega) (by unfold I64; omega)) ?_; clear hF a; intro a hF
    refine ls_val hF (.free rfl) rfl rfl (ex_move rfl rfl) ?_; clear hF a; intro a hF
    refine ls_val hF (.free rfl) rfl rfl (ex_quo (r := (Int.tdiv (t + ((dfv x.a x.p (s.w + s.kf) (s.w + s.kf)) * (dfv x.b x.q (s.h + s.kf) (s.h + s.kf))) - 1) ((dfv x.a x.p (s.w + s.kf) (s.w + s.kf)) * (dfv x.b x.q (s.h + s.kf) (s.h + s.kf))))) rfl rfl rfl (by omega) rfl (by unfold I64; omega)) ?_; clear hF a; intro a hF
    refine ls_val hF (.free rfl) rfl rfl (ex_assign rfl rfl) ?_; clear hF a; intro a hF
    refine ls_nil ?_
    refine then_normal ?_
    refine wp_ret ?_
    refine (fin1 hF rfl rfl ⟨_, rfl, ?_⟩)
    obtain rfl : i = d.n := by omega
    exact ⟨congrArg (Value.int .i64) (by unfold Crt.val; rw [← ht]; rfl), hS.sub (.cons _ .slnil)⟩

set_option maxRecDepth 20000 in
theorem c_Value {x : Crt} {vD : Value} {d : Dem} {s : Sht} (w0 : World) (hD : DAt w0 vD d.n d.W d.H d.N) (hs : (-9223372036854775808 ≤ s.w ∧ s.w ≤ 9223372036854775807) ∧ (-9223372036854775808 ≤ s.h ∧ s.h ≤ 9223372036854775807) ∧ (-9223372036854775808 ≤ s.kf ∧ s.kf ≤ 9223372036854775807)) (hx : (-9223372036854775808 ≤ x.a ∧ x.a ≤ 9223372036854775807) ∧ (-9223372036854775808 ≤ x.p ∧ x.p ≤ 9223372036854775807) ∧ (-9223372036854775808 ≤ x.b ∧ x.b ≤ 9223372036854775807) ∧ (-9223372036854775808 ≤ x.q ∧ x.q ≤ 9223372036854775807)) :
    Calls Try.prog 12 [.agg #[.int .i64 x.a, .int .i64 x.p, .int .i64 x.b, .int .i64 x.q], vD, .int .i64 s.w, .int .i64 s.h, .int .i64 s.kf].toArray w0 fun e w => ∃ v, e = .returned v ∧ ∃ a e, v = .tuple #[.int .i64 a, .int .i64 e] ∧ ValueR x d s a e ∧ Sat w0 w [] := by
  have hn := hD.row.slh.n0
  refine enterS (vs := [.agg #[.int .i64 x.a, .int .i64 x.p, .int .i64 x.b, .int .i64 x.q], vD, .int .i64 s.w, .int .i64 s.h, .int .i64 s.kf]) Try.func12 rfl Try.ntmps12 rfl ?_
  intro a w hS hF
  refine cw_seq ?_
  refine wp_region_lit ?_
  refine ls_any hF (.free rfl) rfl rfl (ex_box (cs := [.int .i64 x.a, .int .i64 x.p, .int .i64 x.b, .int .i64 x.q]) rfl hS rfl rfl) ?_; clear hF; rintro _ w ⟨g1, rfl, hS⟩ a hF
  replace hS : Sat w0 w [.blk g1 [.int .i64 x.a, .int .i64 x.p, .int .i64 x.b, .int .i64 x.q]] := hS
  refine ls_val hF (.free rfl) rfl rfl (ex_assign rfl rfl) ?_; clear hF a; intro a hF
  refine ls_val hF (.free rfl) rfl rfl (ex_assign rfl rfl) ?_; clear hF a; intro a hF
  refine ls_nil ?_
  refine then_normal ?_
  refine cw_seq ?_
  refine wp_region_lit ?_
  refine ls_val hF (.free rfl) rfl rfl (ex_move rfl rfl) ?_; clear hF a; intro a hF
  refine ls_val hF (.free rfl) rfl rfl (ex_move rfl rfl) ?_; clear hF a; intro a hF
  refine ls_val hF (.free rfl) rfl rfl (ex_move rfl rfl) ?_; clear hF a; intro a hF
  refine ls_val hF (.free rfl) rfl rfl (ex_move rfl rfl) ?_; clear hF a; intro a hF
  refine ls_call hF (.free rfl) rfl rfl (ex_call0 rfl rfl cl_23 (args_cons rfl (args_cons rfl (args_cons rfl (args_cons rfl args0))))) (c_check (s := s) w (hD.below hS.below) hs) ?_; clear hF; rintro _ w ⟨e1, rfl, he1, hS'⟩ a hF
  replace hS : Sat w0 w [.blk g1 [.int .i64 x.a, .int .i64 x.p, .int .i64 x.b, .int .i64 x.q]] := hS.comp hS'; clear hS'
  refine ls_val hF (.free rfl) rfl rfl (ex_assign rfl rfl) ?_; clear hF a; intro a hF
  refine ls_nil ?_
  refine then_normal ?_
  refine cw_seq ?_
  refine cw_seq ?_
  refine wp_region_lit ?_
  refine ls_val hF (.free rfl) rfl rfl (ex_move rfl rfl) ?_; clear hF a; intro a hF
  refine ls_val hF (.free rfl) rfl rfl (ex_eql rfl rfl rfl) ?_; clear hF a; intro a hF
  refine ls_val hF (.free rfl) rfl rfl (ex_move rfl rfl) ?_; clear hF a; intro a hF
  refine by_slot hF (d := 20) rfl ?_ ?_ <;> clear hF <;> intro hc hF
  ·
   refine ls_off hF (.on rfl rfl rfl rfl rfl) rfl rfl ?_; clear hF a; intro a hF
   refine ls_off hF (.on rfl rfl rfl rfl rfl) rfl rfl ?_; clear hF a; intro a hF
   refine ls_off hF (.on rfl rfl rfl rfl rfl) rfl rfl ?_; clear hF a; intro a hF
   refine ls_off hF (.on rfl rfl rfl rfl rfl) rfl rfl ?_; clear hF a; intro a hF
   refine ls_off hF (.on rfl rfl rfl rfl rfl) rfl rfl ?_; clear hF a; intro a hF
   refine ls_off hF (.on rfl rfl rfl rfl rfl) rfl rfl ?_; clear hF a; intro a hF
   refine ls_off hF (.on rfl rfl rfl rfl rfl) rfl rfl ?_; clear hF a; intro a hF
   refine ls_val hF (.free rfl) rfl rfl (ex_pick_t rfl rfl rfl) ?_; clear hF a; intro a hF
   refine ls_val hF (.free rfl) rfl rfl (ex_move rfl rfl) ?_; clear hF a; intro a hF
   refine ls_off hF (.on rfl rfl rfl rfl rfl) rfl rfl ?_; clear hF a; intro a hF
   refine ls_off hF (.on rfl rfl rfl rfl rfl) rfl rfl ?_; clear hF a; intro a hF
   refine ls_off hF (.on rfl rfl rfl rfl rfl) rfl rfl ?_; clear hF a; intro a hF
   refine ls_off hF (.on rfl rfl rfl rfl rfl) rfl rfl ?_; clear hF a; intro a hF
   refine ls_off hF (.on rfl rfl rfl rfl rfl) rfl rfl ?_; clear hF a; intro a hF
   refine ls_off hF (.on rfl rfl rfl rfl rfl) rfl rfl ?_; clear hF a; intro a hF
   refine ls_off hF (.on rfl rfl rfl rfl rfl) rfl rfl ?_; clear hF a; intro a hF
   refine ls_val hF (.free rfl) rfl rfl (ex_pick_t rfl rfl rfl) ?_; clear hF a; intro a hF
   refine ls_nil ?_
   refine then_normal ?_
   refine cw_t hF rfl ?_
   refine cw_seq ?_
   refine wp_region_lit ?_
   refine ls_val hF (.free rfl) rfl rfl (ex_assign rfl rfl) ?_; clear hF a; intro a hF
   refine ls_val hF (.free rfl) rfl rfl (ex_assign rfl rfl) ?_; clear hF a; intro a hF
   refine ls_nil ?_
   refine then_normal ?_
   refine wp_ret ?_
   refine then_ret ((fin2 hF rfl rfl rfl ⟨_, rfl, ?_⟩))
   exact ⟨_, _, rfl, .inl ⟨fun hh => by first | exact absurd hh.2.1 ‹_› | exact absurd hh.2.2 ‹_› | (rcases he1 with ⟨h1, h2⟩ | ⟨h1, h2, h3⟩ | ⟨h1, h2, h3⟩; exact h1 hh.1; omega; omega), rfl, rfl⟩, hS.sub (.cons _ .slnil)⟩
  ·
   refine ls_val hF (.on rfl rfl rfl rfl rfl) rfl rfl (ex_field (b := ⟨g1, 0, none⟩) rfl fd_36_0 rfl rfl) ?_; clear hF a; intro a hF
   have hk : DOk d s := by rcases he1 with ⟨h1, h2⟩ | ⟨h1, h2, h3⟩ | ⟨h1, h2, h3⟩; omega; exact h1; exact h1
   have b2 := hk.w1
   have b3 := hk.w2
   have b4 := hk.h1
   have b5 := hk.h2
   have b6 := hk.k1
   have b7 := hk.k2
   have b8 := hk.few
   refine ls_val hF (.on rfl rfl rfl rfl rfl) rfl rfl (ex_loads_part 0 rfl st_34 rfl hS rfl rfl rfl) ?_; clear hF a; intro a hF
   refine ls_val hF (.on rfl rfl rfl rfl rfl) rfl rfl (ex_move rfl rfl) ?_; clear hF a; intro a hF
   refine ls_val hF (.on rfl rfl rfl rfl rfl) rfl rfl (ex_move rfl rfl) ?_; clear hF a; intro a hF
   refine ls_val hF (.on rfl rfl rfl rfl rfl) rfl rfl (ex_add (r := s.w + s.kf) rfl rfl rfl (by omega) (by unfold I64; omega)) ?_; clear hF a; intro a hF
   refine ls_call hF (.on rfl rfl rfl rfl rfl) rfl rfl (ex_call0 rfl rfl cl_24 (args_cons rfl (args_cons rfl args0))) (c_fvalid (kind := x.a) (k := x.p) (c := (s.w + s.kf)) w (by omega) (by omega)) ?_; clear hF; rintro _ w ⟨rfl, hS'⟩ a hF
   replace hS : Sat w0 w [.blk g1 [.int .i64 x.a, .int .i64 x.p, .int .i64 x.b, .int .i64 x.q]] := hS.comp hS'; clear hS'
   refine ls_val hF (.on rfl rfl rfl rfl rfl) rfl rfl (ex_not rfl rfl) ?_; clear hF a; intro a hF
   refine ls_val hF (.free rfl) rfl rfl (ex_pick_f rfl rfl rfl) ?_; clear hF a; intro a hF
   refine ls_val hF (.free rfl) rfl rfl (ex_move rfl rfl) ?_; clear hF a; intro a hF
   refine by_slot hF (d := 29) rfl ?_ ?_ <;> clear hF <;> intro hc hF
   ·
    refine ls_off hF (.on rfl rfl rfl rfl rfl) rfl rfl ?_; clear hF a; intro a hF
    refine ls_off hF (.on rfl rfl rfl rfl rfl) rfl rfl ?_; clear hF a; intro a hF
    refine ls_off hF (.on rfl rfl rfl rfl rfl) rfl rfl ?_; clear hF a; intro a hF
    refine ls_off hF (.on rfl rfl rfl rfl rfl) rfl rfl ?_; clear hF a; intro a hF
    refine ls_off hF (.on rfl rfl rfl rfl rfl) rfl rfl ?_; clear hF a; intro a hF
    refine ls_off hF (.on rfl rfl rfl rfl rfl) rfl rfl ?_; clear hF a; intro a hF
    refine ls_off hF (.on rfl rfl rfl rfl rfl) rfl rfl ?_; clear hF a; intro a hF
    refine ls_val hF (.free rfl) rfl rfl (ex_pick_t rfl rfl rfl) ?_; clear hF a; intro a hF
    refine ls_nil ?_
    refine then_normal ?_
    refine cw_t hF rfl ?_
    refine cw_seq ?_
    refine wp_region_lit ?_
    refine ls_val hF (.free rfl) rfl rfl (ex_assign rfl rfl) ?_; clear hF a; intro a hF
    refine ls_val hF (.free rfl) rfl rfl (ex_assign rfl rfl) ?_; clear hF a; intro a hF
    refine ls_nil ?_
    refine then_normal ?_
    refine wp_ret ?_
    refine then_ret ((fin2 hF rfl rfl rfl ⟨_, rfl, ?_⟩))
    exact ⟨_, _, rfl, .inl ⟨fun hh => by first | exact absurd hh.2.1 ‹_› | exact absurd hh.2.2 ‹_› | (rcases he1 with ⟨h1, h2⟩ | ⟨h1, h2, h3⟩ | ⟨h1, h2, h3⟩; exact h1 hh.1; omega; omega), rfl, rfl⟩, hS.sub (.cons _ .slnil)⟩
   ·
    refine ls_val hF (.on rfl rfl rfl rfl rfl) rfl rfl (ex_field (b := ⟨g1, 2, none⟩) rfl fd_36_1 rfl rfl) ?_; clear hF a; intro a hF
    refine ls_val hF (.on rfl rfl rfl rfl rfl) rfl rfl (ex_loads_part 0 rfl st_34 rfl hS rfl rfl rfl) ?_; clear hF a; intro a hF
    refine ls_val hF (.on rfl rfl rfl rfl rfl) rfl rfl (ex_move rfl rfl) ?_; clear hF a; intro a hF
    refine ls_val hF (.on rfl rfl rfl rfl rfl) rfl rfl (ex_move rfl rfl) ?_; clear hF a; intro a hF
    refine ls_val hF (.on rfl rfl rfl rfl rfl) rfl rfl (ex_add (r := s.h + s.kf) rfl rfl rfl (by omega) (by unfold I64; omega)) ?_; clear hF a; intro a hF
    refine ls_call hF (.on rfl rfl rfl rfl rfl) rfl rfl (ex_call0 rfl rfl cl_24 (args_cons rfl (args_cons rfl args0))) (c_fvalid (kind := x.b) (k := x.q) (c := (s.h + s.kf)) w (by omega) (by omega)) ?_; clear hF; rintro _ w ⟨rfl, hS'⟩ a hF
    replace hS : Sat w0 w [.blk g1 [.int .i64 x.a, .int .i64 x.p, .int .i64 x.b, .int .i64 x.q]] := hS.comp hS'; clear hS'
    refine ls_val hF (.on rfl rfl rfl rfl rfl) rfl rfl (ex_not rfl rfl) ?_; clear hF a; intro a hF
    refine ls_val hF (.free rfl) rfl rfl (ex_pick_f rfl rfl rfl) ?_; clear hF a; intro a hF
    refine ls_nil ?_
    refine then_normal ?_
    refine cw_if hF rfl (fun hc => ?_) (fun hc => ?_)
    ·
     refine cw_seq ?_
     refine wp_region_lit ?_
     refine ls_val hF (.free rfl) rfl rfl (ex_assign rfl rfl) ?_; clear hF a; intro a hF
     refine ls_val hF (.free rfl) rfl rfl (ex_assign rfl rfl) ?_; clear hF a; intro a hF
     refine ls_nil ?_
     refine then_normal ?_
     refine wp_ret ?_
     refine then_ret ((fin2 hF rfl rfl rfl ⟨_, rfl, ?_⟩))
     exact ⟨_, _, rfl, .inl ⟨fun hh => by first | exact absurd hh.2.1 ‹_› | exact absurd hh.2.2 ‹_› | (rcases he1 with ⟨h1, h2⟩ | ⟨h1, h2, h3⟩ | ⟨h1, h2, h3⟩; exact h1 hh.1; omega; omega), rfl, rfl⟩, hS.sub (.cons _ .slnil)⟩
    ·
     refine wp_skip ?_
     refine then_normal ?_
     refine cw_seq ?_
     refine cw_seq ?_
     refine wp_region_lit ?_
     refine ls_val hF (.free rfl) rfl rfl (ex_move rfl rfl) ?_; clear hF a; intro a hF
     refine ls_val hF (.free rfl) rfl rfl (ex_neq rfl rfl rfl) ?_; clear hF a; intro a hF
     refine ls_nil ?_
     refine then_normal ?_
     refine cw_if hF rfl (fun hc => ?_) (fun hc => ?_)
     ·
      refine cw_seq ?_
      refine wp_region_lit ?_
      refine ls_val hF (.free rfl) rfl rfl (ex_move rfl rfl) ?_; clear hF a; intro a hF
      refine ls_val hF (.free rfl) rfl rfl (ex_assign rfl rfl) ?_; clear hF a; intro a hF
      refine ls_val hF (.free rfl) rfl rfl (ex_assign rfl rfl) ?_; clear hF a; intro a hF
      refine ls_nil ?_
      refine then_normal ?_
      refine wp_ret ?_
      refine then_ret ((fin2 hF rfl rfl rfl ⟨_, rfl, ?_⟩))
      rcases he1 with ⟨h1, h2⟩ | ⟨h1, h2, h3⟩ | ⟨h1, h2, h3⟩
      · omega
      · exact ⟨_, _, rfl, .inr (.inl ⟨hk, ⟨(Classical.not_not.1 ‹¬ ¬ (okF x.a x.p (s.w + s.kf))›), (Classical.not_not.1 ‹¬ ¬ (okF x.b x.q (s.h + s.kf))›)⟩, h2, rfl, h3⟩), hS.sub (.cons _ .slnil)⟩
      · omega
     ·
      refine wp_skip ?_
      refine then_normal ?_
      refine cw_seq ?_
      refine wp_region_lit ?_
      refine ls_val hF (.free rfl) rfl rfl (ex_loads_blk 0 rfl st_36 rfl hS rfl rfl) ?_; clear hF a; intro a hF
      have hok : x.ok s := ⟨(Classical.not_not.1 ‹¬ ¬ (okF x.a x.p (s.w + s.kf))›), (Classical.not_not.1 ‹¬ ¬ (okF x.b x.q (s.h + s.kf))›)⟩
      have hng : ¬ DGreat d s := by rcases he1 with ⟨h1, h2⟩ | ⟨h1, h2, h3⟩ | ⟨h1, h2, h3⟩; omega; omega; exact h2
      refine ls_val hF (.free rfl) rfl rfl (ex_move rfl rfl) ?_; clear hF a; intro a hF
      refine ls_val hF (.free rfl) rfl rfl (ex_move rfl rfl) ?_; clear hF a; intro a hF
      refine ls_val hF (.free rfl) rfl rfl (ex_move rfl rfl) ?_; clear hF a; intro a hF
      refine ls_val hF (.free rfl) rfl rfl (ex_move rfl rfl) ?_; clear hF a; intro a hF
      refine ls_call hF (.free rfl) rfl rfl (ex_call0 rfl rfl cl_25 (args_cons rfl (args_cons rfl (args_cons rfl (args_cons rfl (args_cons rfl args0)))))) (c_value (x := x) (s := s) w (hD.below hS.below) hk hok (fun k a0 a1 hh => hng ⟨k, a0, a1, hh⟩)) ?_; clear hF; rintro _ w ⟨rfl, hS'⟩ a hF
      replace hS : Sat w0 w [.blk g1 [.int .i64 x.a, .int .i64 x.p, .int .i64 x.b, .int .i64 x.q]] := hS.comp hS'; clear hS'
      refine ls_val hF (.free rfl) rfl rfl (ex_assign rfl rfl) ?_; clear hF a; intro a hF
      refine ls_val hF (.free rfl) rfl rfl (ex_assign rfl rfl) ?_; clear hF a; intro a hF
      refine ls_nil ?_
      refine then_normal ?_
      refine wp_ret ?_
      refine (fin2 hF rfl rfl rfl ⟨_, rfl, ?_⟩)
      exact ⟨_, _, rfl, .inr (.inr ⟨hk, hok, hng, rfl, rfl⟩), hS.sub (.cons _ .slnil)⟩

set_option maxRecDepth 20000 in
theorem c_problem {vD : Value} {d : Dem} {s : Sht} (w0 : World) (hD : DAt w0 vD d.n d.W d.H d.N) (hs : (-9223372036854775808 ≤ s.w ∧ s.w ≤ 9223372036854775807) ∧ (-9223372036854775808 ≤ s.h ∧ s.h ≤ 9223372036854775807) ∧ (-9223372036854775808 ≤ s.kf ∧ s.kf ≤ 9223372036854775807)) :
    Calls Try.prog 26 [vD, .int .i64 s.w, .int .i64 s.h, .int .i64 s.kf].toArray w0 fun e w => ∃ v, e = .returned v ∧ v = B (DOk d s) ∧ Sat w0 w [] := by
  have hn := hD.row.slh.n0; have hn1 := hD.row.slh.n1
  refine enterS (vs := [vD, .int .i64 s.w, .int .i64 s.h, .int .i64 s.kf]) Try.func26 rfl Try.ntmps26 rfl ?_
  intro a w hS hF
  refine cw_seq ?_
  refine wp_region_lit ?_
  refine ls_val hF (.free rfl) rfl rfl (ex_assign rfl rfl) ?_; clear hF a; intro a hF
  refine ls_nil ?_
  refine then_normal ?_
  refine cw_seq ?_
  refine cw_seq ?_
  refine wp_region_lit ?_
  refine ls_val hF (.free rfl) rfl rfl (ex_assign rfl rfl) ?_; clear hF a; intro a hF
  refine ls_nil ?_
  refine then_normal ?_
  refine wp_block ?_
  refine cw_loop (fun mm a w => ∃ (i : Int), mm = ((d.n - i).toNat) ∧ (0 ≤ i) ∧ (i ≤ d.n) ∧ (∀ k, 0 ≤ k → k < i → d.each k) ∧ Fr a 76 [(0, vD), (1, .int .i64 s.w), (2, .int .i64 s.h), (3, .int .i64 s.kf), (9, .int .i64 i)] ∧ Sat w0 w []) ?_ ?_ (m := ((d.n - 0).toNat))
  ·
   refine ⟨0, rfl, (by omega), (by omega), ?_, (hF.pick (hF.pick (hF.pick (hF.pick (hF.pick hF.nil 9 rfl) 3 rfl) 2 rfl) 1 rfl) 0 rfl), hS⟩
   ·
    intro k h0 h1; omega
  ·
   clear hF hS a w
   rintro mm a w ⟨i, rfl, h0, h1, hall, hF, hS⟩
   refine cw_seq ?_
   refine cw_seq ?_
   refine wp_region_lit ?_
   refine ls_val hF (.free rfl) rfl rfl (ex_move rfl rfl) ?_; clear hF a; intro a hF
   refine ls_val hF (.free rfl) rfl rfl (ex_move rfl rfl) ?_; clear hF a; intro a hF
   refine ls_val hF (.free rfl) rfl rfl (ex_len rfl sl_22 rfl hD.row.slh) ?_; clear hF a; intro a hF
   refine ls_val hF (.free rfl) rfl rfl (ex_lss rfl rfl rfl) ?_; clear hF a; intro a hF
   refine ls_nil ?_
   refine then_normal ?_
   refine cw_if hF rfl (fun hc => ?_) (fun hc => ?_)
   ·
    refine wp_skip ?_
    refine then_normal ?_
    refine cw_seq ?_
    refine wp_block ?_
    refine cw_seq ?_
    refine wp_region_lit ?_
    refine ls_val hF (.free rfl) rfl rfl (ex_move rfl rfl) ?_; clear hF a; intro a hF
    refine ls_val hF (.free rfl) rfl rfl (ex_move rfl rfl) ?_; clear hF a; intro a hF
    refine ls_val hF (.free rfl) rfl rfl (ex_index (k := 3 * i) rfl sl_22 rfl rfl hD.row.slh (by omega) (by omega) (by omega)) ?_; clear hF a; intro a hF
    refine ls_val hF (.free rfl) rfl rfl (ex_loads_row (cs := [.int .i64 (d.W i), .int .i64 (d.H i), .int .i64 (d.N i)]) rfl st_62 rfl (hD.row.below hS.below) (by omega) (by omega) rfl (by omega) (dcells_at d.W d.H d.N (by omega))) ?_; clear hF a; intro a hF
    have hbv := hD.bw i
    have hbv := hD.bh i
    have hbv := hD.bn i
    refine ls_any hF (.free rfl) rfl rfl (ex_alloc (cs := [.int .i64 0, .int .i64 0, .int .i64 0]) rfl el_62 hS rfl) ?_; clear hF; rintro _ w ⟨g1, rfl, hS⟩ a hF
    replace hS : Sat w0 w [.blk g1 [.int .i64 0, .int .i64 0, .int .i64 0]] := hS
    refine ls_effx hF (.free rfl) rfl (st_blks 0 (ds := [.int .i64 (d.W i), .int .i64 (d.H i), .int .i64 (d.N i)]) rfl st_62 hS rfl rfl rfl rfl (ones_cons rfl (ones_cons rfl (ones_cons rfl ones_nil)))) ?_; clear hS; rintro w hS
    replace hS : Sat w0 w [.blk g1 [.int .i64 (d.W i), .int .i64 (d.H i), .int .i64 (d.N i)]] := hS
    refine ls_nil ?_
    refine then_normal ?_
    refine cw_seq ?_
    refine wp_region_lit ?_
    refine ls_val hF (.free rfl) rfl rfl (ex_field (b := ⟨g1, 0, none⟩) rfl fd_62_0 rfl rfl) ?_; clear hF a; intro a hF
    refine ls_val hF (.free rfl) rfl rfl (ex_load_blk 0 rfl pl_3 rfl hS rfl rfl) ?_; clear hF a; intro a hF
    refine ls_val hF (.free rfl) rfl rfl (ex_lss rfl rfl rfl) ?_; clear hF a; intro a hF
    refine ls_val hF (.free rfl) rfl rfl (ex_move rfl rfl) ?_; clear hF a; intro a hF
    refine by_slot hF (d := 24) rfl ?_ ?_ <;> clear hF <;> intro hc hF
    ·
     refine ls_off hF (.on rfl rfl rfl rfl rfl) rfl rfl ?_; clear hF a; intro a hF
     refine ls_off hF (.on rfl rfl rfl rfl rfl) rfl rfl ?_; clear hF a; intro a hF
     refine ls_off hF (.on rfl rfl rfl rfl rfl) rfl rfl ?_; clear hF a; intro a hF
     refine ls_val hF (.free rfl) rfl rfl (ex_pick_t rfl rfl rfl) ?_; clear hF a; intro a hF
     refine ls_val hF (.free rfl) rfl rfl (ex_move rfl rfl) ?_; clear hF a; intro a hF
     refine ls_off hF (.on rfl rfl rfl rfl rfl) rfl rfl ?_; clear hF a; intro a hF
     refine ls_off hF (.on rfl rfl rfl rfl rfl) rfl rfl ?_; clear hF a; intro a hF
     refine ls_off hF (.on rfl rfl rfl rfl rfl) rfl rfl ?_; clear hF a; intro a hF
     refine ls_val hF (.free rfl) rfl rfl (ex_pick_t rfl rfl rfl) ?_; clear hF a; intro a hF
     refine ls_val hF (.free rfl) rfl rfl (ex_move rfl rfl) ?_; clear hF a; intro a hF
     refine ls_off hF (.on rfl rfl rfl rfl rfl) rfl rfl ?_; clear hF a; intro a hF
     refine ls_off hF (.on rfl rfl rfl rfl rfl) rfl rfl ?_; clear hF a; intro a hF
     refine ls_off hF (.on rfl rfl rfl rfl rfl) rfl rfl ?_; clear hF a; intro a hF
     refine ls_val hF (.free rfl) rfl rfl (ex_pick_t rfl rfl rfl) ?_; clear hF a; intro a hF
     refine ls_val hF (.free rfl) rfl rfl (ex_move rfl rfl) ?_; clear hF a; intro a hF
     refine ls_off hF (.on rfl rfl rfl rfl rfl) rfl rfl ?_; clear hF a; intro a hF
     refine ls_off hF (.on rfl rfl rfl rfl rfl) rfl rfl ?_; clear hF a; intro a hF
     refine ls_off hF (.on rfl rfl rfl rfl rfl) rfl rfl ?_; clear hF a; intro a hF
     refine ls_val hF (.free rfl) rfl rfl (ex_pick_t rfl rfl rfl) ?_; clear hF a; intro a hF
     refine ls_val hF (.free rfl) rfl rfl (ex_move rfl rfl) ?_; clear hF a; intro a hF
     refine ls_off hF (.on rfl rfl rfl rfl rfl) rfl rfl ?_; clear hF a; intro a hF
     refine ls_off hF (.on rfl rfl rfl rfl rfl) rfl rfl ?_; clear hF a; intro a hF
     refine ls_off hF (.on rfl rfl rfl rfl rfl) rfl rfl ?_; clear hF a; intro a hF
     refine ls_val hF (.free rfl) rfl rfl (ex_pick_t rfl rfl rfl) ?_; clear hF a; intro a hF
     refine ls_nil ?_
     refine then_normal ?_
     refine cw_t hF rfl ?_
     refine cw_seq ?_
     refine wp_region_lit ?_
     refine ls_val hF (.free rfl) rfl rfl (ex_assign rfl rfl) ?_; clear hF a; intro a hF
     refine ls_nil ?_
     refine then_normal ?_
     refine wp_ret ?_
     refine inb_ret (then_ret (then_ret (inb_ret (then_ret ((fin1 hF rfl rfl ⟨_, rfl, ?_⟩))))))
     exact ⟨false_B (by intro hk; have b1 := hk.few; have b2 := hk.w1; have b3 := hk.w2; have b4 := hk.h1; have b5 := hk.h2; have b6 := hk.k1; have b7 := hk.k2; first | omega | (have b9 := hk.all i (by omega) (by omega); unfold Dem.each at b9; omega)), hS.sub (.cons _ .slnil)⟩
    ·
     refine ls_val hF (.on rfl rfl rfl rfl rfl) rfl rfl (ex_field (b := ⟨g1, 0, none⟩) rfl fd_62_0 rfl rfl) ?_; clear hF a; intro a hF
     refine ls_val hF (.on rfl rfl rfl rfl rfl) rfl rfl (ex_load_blk 0 rfl pl_3 rfl hS rfl rfl) ?_; clear hF a; intro a hF
     refine ls_val hF (.on rfl rfl rfl rfl rfl) rfl rfl (ex_gtr rfl rfl rfl) ?_; clear hF a; intro a hF
     refine ls_val hF (.free rfl) rfl rfl (ex_pick_f rfl rfl rfl) ?_; clear hF a; intro a hF
     refine ls_val hF (.free rfl) rfl rfl (ex_move rfl rfl) ?_; clear hF a; intro a hF
     refine by_slot hF (d := 29) rfl ?_ ?_ <;> clear hF <;> intro hc hF
     ·
      refine ls_off hF (.on rfl rfl rfl rfl rfl) rfl rfl ?_; clear hF a; intro a hF
      refine ls_off hF (.on rfl rfl rfl rfl rfl) rfl rfl ?_; clear hF a; intro a hF
      refine ls_off hF (.on rfl rfl rfl rfl rfl) rfl rfl ?_; clear hF a; intro a hF
      refine ls_val hF (.free rfl) rfl rfl (ex_pick_t rfl rfl rfl) ?_; clear hF a; intro a hF
      refine ls_val hF (.free rfl) rfl rfl (ex_move rfl rfl) ?_; clear hF a; intro a hF
      refine ls_off hF (.on rfl rfl rfl rfl rfl) rfl rfl ?_; clear hF a; intro a hF
      refine ls_off hF (.on rfl rfl rfl rfl rfl) rfl rfl ?_; clear hF a; intro a hF
      refine ls_off hF (.on rfl rfl rfl rfl rfl) rfl rfl ?_; clear hF a; intro a hF
      refine ls_val hF (.free rfl) rfl rfl (ex_pick_t rfl rfl rfl) ?_; clear hF a; intro a hF
      refine ls_val hF (.free rfl) rfl rfl (ex_move rfl rfl) ?_; clear hF a; intro a hF
      refine ls_off hF (.on rfl rfl rfl rfl rfl) rfl rfl ?_; clear hF a; intro a hF
      refine ls_off hF (.on rfl rfl rfl rfl rfl) rfl rfl ?_; clear hF a; intro a hF
      refine ls_off hF (.on rfl rfl rfl rfl rfl) rfl rfl ?_; clear hF a; intro a hF
      refine ls_val hF (.free rfl) rfl rfl (ex_pick_t rfl rfl rfl) ?_; clear hF a; intro a hF
      refine ls_val hF (.free rfl) rfl rfl (ex_move rfl rfl) ?_; clear hF a; intro a hF
      refine ls_off hF (.on rfl rfl rfl rfl rfl) rfl rfl ?_; clear hF a; intro a hF
      refine ls_off hF (.on rfl rfl rfl rfl rfl) rfl rfl ?_; clear hF a; intro a hF
      refine ls_off hF (.on rfl rfl rfl rfl rfl) rfl rfl ?_; clear hF a; intro a hF
      refine ls_val hF (.free rfl) rfl rfl (ex_pick_t rfl rfl rfl) ?_; clear hF a; intro a hF
      refine ls_nil ?_
      refine then_normal ?_
      refine cw_t hF rfl ?_
      refine cw_seq ?_
      refine wp_region_lit ?_
      refine ls_val hF (.free rfl) rfl rfl (ex_assign rfl rfl) ?_; clear hF a; intro a hF
      refine ls_nil ?_
      refine then_normal ?_
      refine wp_ret ?_
      refine inb_ret (then_ret (then_ret (inb_ret (then_ret ((fin1 hF rfl rfl ⟨_, rfl, ?_⟩))))))
      exact ⟨false_B (by intro hk; have b1 := hk.few; have b2 := hk.w1; have b3 := hk.w2; have b4 := hk.h1; have b5 := hk.h2; have b6 := hk.k1; have b7 := hk.k2; first | omega | (have b9 := hk.all i (by omega) (by omega); unfold Dem.each at b9; omega)), hS.sub (.cons _ .slnil)⟩
     ·
      refine ls_val hF (.on rfl rfl rfl rfl rfl) rfl rfl (ex_field (b := ⟨g1, 1, none⟩) rfl fd_62_1 rfl rfl) ?_; clear hF a; intro a hF
      refine ls_val hF (.on rfl rfl rfl rfl rfl) rfl rfl (ex_load_blk 0 rfl pl_3 rfl hS rfl rfl) ?_; clear hF a; intro a hF
      refine ls_val hF (.on rfl rfl rfl rfl rfl) rfl rfl (ex_lss rfl rfl rfl) ?_; clear hF a; intro a hF
      refine ls_val hF (.free rfl) rfl rfl (ex_pick_f rfl rfl rfl) ?_; clear hF a; intro a hF
      refine ls_val hF (.free rfl) rfl rfl (ex_move rfl rfl) ?_; clear hF a; intro a hF
      refine by_slot hF (d := 34) rfl ?_ ?_ <;> clear hF <;> intro hc hF
      ·
       refine ls_off hF (.on rfl rfl rfl rfl rfl) rfl rfl ?_; clear hF a; intro a hF
       refine ls_off hF (.on rfl rfl rfl rfl rfl) rfl rfl ?_; clear hF a; intro a hF
       refine ls_off hF (.on rfl rfl rfl rfl rfl) rfl rfl ?_; clear hF a; intro a hF
       refine ls_val hF (.free rfl) rfl rfl (ex_pick_t rfl rfl rfl) ?_; clear hF a; intro a hF
       refine ls_val hF (.free rfl) rfl rfl (ex_move rfl rfl) ?_; clear hF a; intro a hF
       refine ls_off hF (.on rfl rfl rfl rfl rfl) rfl rfl ?_; clear hF a; intro a hF
       refine ls_off hF (.on rfl rfl rfl rfl rfl) rfl rfl ?_; clear hF a; intro a hF
       refine ls_off hF (.on rfl rfl rfl rfl rfl) rfl rfl ?_; clear hF a; intro a hF
       refine ls_val hF (.free rfl) rfl rfl (ex_pick_t rfl rfl rfl) ?_; clear hF a; intro a hF
       refine ls_val hF (.free rfl) rfl rfl (ex_move rfl rfl) ?_; clear hF a; intro a hF
       refine ls_off hF (.on rfl rfl rfl rfl rfl) rfl rfl ?_; clear hF a; intro a hF
       refine ls_off hF (.on rfl rfl rfl rfl rfl) rfl rfl ?_; clear hF a; intro a hF
       refine ls_off hF (.on rfl rfl rfl rfl rfl) rfl rfl ?_; clear hF a; intro a hF
       refine ls_val hF (.free rfl) rfl rfl (ex_pick_t rfl rfl rfl) ?_; clear hF a; intro a hF
       refine ls_nil ?_
       refine then_normal ?_
       refine cw_t hF rfl ?_
       refine cw_seq ?_
       refine wp_region_lit ?_
       refine ls_val hF (.free rfl) rfl rfl (ex_assign rfl rfl) ?_; clear hF a; intro a hF
       refine ls_nil ?_
       refine then_normal ?_
       refine wp_ret ?_
       refine inb_ret (then_ret (then_ret (inb_ret (then_ret ((fin1 hF rfl rfl ⟨_, rfl, ?_⟩))))))
       exact ⟨false_B (by intro hk; have b1 := hk.few; have b2 := hk.w1; have b3 := hk.w2; have b4 := hk.h1; have b5 := hk.h2; have b6 := hk.k1; have b7 := hk.k2; first | omega | (have b9 := hk.all i (by omega) (by omega); unfold Dem.each at b9; omega)), hS.sub (.cons _ .slnil)⟩
      ·
       refine ls_val hF (.on rfl rfl rfl rfl rfl) rfl rfl (ex_field (b := ⟨g1, 1, none⟩) rfl fd_62_1 rfl rfl) ?_; clear hF a; intro a hF
       refine ls_val hF (.on rfl rfl rfl rfl rfl) rfl rfl (ex_load_blk 0 rfl pl_3 rfl hS rfl rfl) ?_; clear hF a; intro a hF
       refine ls_val hF (.on rfl rfl rfl rfl rfl) rfl rfl (ex_gtr rfl rfl rfl) ?_; clear hF a; intro a hF
       refine ls_val hF (.free rfl) rfl rfl (ex_pick_f rfl rfl rfl) ?_; clear hF a; intro a hF
       refine ls_val hF (.free rfl) rfl rfl (ex_move rfl rfl) ?_; clear hF a; intro a hF
       refine by_slot hF (d := 39) rfl ?_ ?_ <;> clear hF <;> intro hc hF
       ·
        refine ls_off hF (.on rfl rfl rfl rfl rfl) rfl rfl ?_; clear hF a; intro a hF
        refine ls_off hF (.on rfl rfl rfl rfl rfl) rfl rfl ?_; clear hF a; intro a hF
        refine ls_off hF (.on rfl rfl rfl rfl rfl) rfl rfl ?_; clear hF a; intro a hF
        refine ls_val hF (.free rfl) rfl rfl (ex_pick_t rfl rfl rfl) ?_; clear hF a; intro a hF
        refine ls_val hF (.free rfl) rfl rfl (ex_move rfl rfl) ?_; clear hF a; intro a hF
        refine ls_off hF (.on rfl rfl rfl rfl rfl) rfl rfl ?_; clear hF a; intro a hF
        refine ls_off hF (.on rfl rfl rfl rfl rfl) rfl rfl ?_; clear hF a; intro a hF
        refine ls_off hF (.on rfl rfl rfl rfl rfl) rfl rfl ?_; clear hF a; intro a hF
        refine ls_val hF (.free rfl) rfl rfl (ex_pick_t rfl rfl rfl) ?_; clear hF a; intro a hF
        refine ls_nil ?_
        refine then_normal ?_
        refine cw_t hF rfl ?_
        refine cw_seq ?_
        refine wp_region_lit ?_
        refine ls_val hF (.free rfl) rfl rfl (ex_assign rfl rfl) ?_; clear hF a; intro a hF
        refine ls_nil ?_
        refine then_normal ?_
        refine wp_ret ?_
        refine inb_ret (then_ret (then_ret (inb_ret (then_ret ((fin1 hF rfl rfl ⟨_, rfl, ?_⟩))))))
        exact ⟨false_B (by intro hk; have b1 := hk.few; have b2 := hk.w1; have b3 := hk.w2; have b4 := hk.h1; have b5 := hk.h2; have b6 := hk.k1; have b7 := hk.k2; first | omega | (have b9 := hk.all i (by omega) (by omega); unfold Dem.each at b9; omega)), hS.sub (.cons _ .slnil)⟩
       ·
        refine ls_val hF (.on rfl rfl rfl rfl rfl) rfl rfl (ex_field (b := ⟨g1, 2, none⟩) rfl fd_62_2 rfl rfl) ?_; clear hF a; intro a hF
        refine ls_val hF (.on rfl rfl rfl rfl rfl) rfl rfl (ex_load_blk 0 rfl pl_3 rfl hS rfl rfl) ?_; clear hF a; intro a hF
        refine ls_val hF (.on rfl rfl rfl rfl rfl) rfl rfl (ex_lss rfl rfl rfl) ?_; clear hF a; intro a hF
        refine ls_val hF (.free rfl) rfl rfl (ex_pick_f rfl rfl rfl) ?_; clear hF a; intro a hF
        refine ls_val hF (.free rfl) rfl rfl (ex_move rfl rfl) ?_; clear hF a; intro a hF
        refine by_slot hF (d := 44) rfl ?_ ?_ <;> clear hF <;> intro hc hF
        ·
         refine ls_off hF (.on rfl rfl rfl rfl rfl) rfl rfl ?_; clear hF a; intro a hF
         refine ls_off hF (.on rfl rfl rfl rfl rfl) rfl rfl ?_; clear hF a; intro a hF
         refine ls_off hF (.on rfl rfl rfl rfl rfl) rfl rfl ?_; clear hF a; intro a hF
         refine ls_val hF (.free rfl) rfl rfl (ex_pick_t rfl rfl rfl) ?_; clear hF a; intro a hF
         refine ls_nil ?_
         refine then_normal ?_
         refine cw_t hF rfl ?_
         refine cw_seq ?_
         refine wp_region_lit ?_
         refine ls_val hF (.free rfl) rfl rfl (ex_assign rfl rfl) ?_; clear hF a; intro a hF
         refine ls_nil ?_
         refine then_normal ?_
         refine wp_ret ?_
         refine inb_ret (then_ret (then_ret (inb_ret (then_ret ((fin1 hF rfl rfl ⟨_, rfl, ?_⟩))))))
         exact ⟨false_B (by intro hk; have b1 := hk.few; have b2 := hk.w1; have b3 := hk.w2; have b4 := hk.h1; have b5 := hk.h2; have b6 := hk.k1; have b7 := hk.k2; first | omega | (have b9 := hk.all i (by omega) (by omega); unfold Dem.each at b9; omega)), hS.sub (.cons _ .slnil)⟩
        ·
         refine ls_val hF (.on rfl rfl rfl rfl rfl) rfl rfl (ex_field (b := ⟨g1, 2, none⟩) rfl fd_62_2 rfl rfl) ?_; clear hF a; intro a hF
         refine ls_val hF (.on rfl rfl rfl rfl rfl) rfl rfl (ex_load_blk 0 rfl pl_3 rfl hS rfl rfl) ?_; clear hF a; intro a hF
         refine ls_val hF (.on rfl rfl rfl rfl rfl) rfl rfl (ex_gtr rfl rfl rfl) ?_; clear hF a; intro a hF
         refine ls_val hF (.free rfl) rfl rfl (ex_pick_f rfl rfl rfl) ?_; clear hF a; intro a hF
         refine ls_nil ?_
         refine then_normal ?_
         refine cw_if hF rfl (fun hc => ?_) (fun hc => ?_)
         ·
          refine cw_seq ?_
          refine wp_region_lit ?_
          refine ls_val hF (.free rfl) rfl rfl (ex_assign rfl rfl) ?_; clear hF a; intro a hF
          refine ls_nil ?_
          refine then_normal ?_
          refine wp_ret ?_
          refine inb_ret (then_ret (then_ret (inb_ret (then_ret ((fin1 hF rfl rfl ⟨_, rfl, ?_⟩))))))
          exact ⟨false_B (by intro hk; have b1 := hk.few; have b2 := hk.w1; have b3 := hk.w2; have b4 := hk.h1; have b5 := hk.h2; have b6 := hk.k1; have b7 := hk.k2; first | omega | (have b9 := hk.all i (by omega) (by omega); unfold Dem.each at b9; omega)), hS.sub (.cons _ .slnil)⟩
         ·
          refine wp_skip ?_
          refine inb_normal ?_
          refine then_normal ?_
          refine wp_region_lit ?_
          refine ls_val hF (.free rfl) rfl rfl (ex_move rfl rfl) ?_; clear hF a; intro a hF
          refine ls_val hF (.free rfl) rfl rfl (ex_add (r := i + 1) rfl rfl rfl (by omega) (by unfold I64; omega)) ?_; clear hF a; intro a hF
          refine ls_val hF (.free rfl) rfl rfl (ex_assign rfl rfl) ?_; clear hF a; intro a hF
          refine ls_nil ?_
          refine then_normal ?_
          refine ⟨_, (by omega), i + 1, rfl, (by omega), (by omega), ?_, (hF.pick (hF.pick (hF.pick (hF.pick (hF.pick hF.nil 9 rfl) 3 rfl) 2 rfl) 1 rfl) 0 rfl), hS.sub (.cons _ .slnil)⟩
          ·
           intro k h0' h1'; rcases Int.lt_or_eq_of_le (show k ≤ i by omega) with hk | hk; exact hall k h0' hk; rw [hk]; unfold Dem.each; omega
   ·
    refine wp_exit ?_
    refine then_exit ?_
    refine then_exit ?_
    refine inb_hit ?_
    refine then_normal ?_
    refine cw_seq ?_
    refine wp_region_lit ?_
    refine ls_val hF (.free rfl) rfl rfl (ex_move rfl rfl) ?_; clear hF a; intro a hF
    refine ls_val hF (.free rfl) rfl rfl (ex_len rfl sl_22 rfl hD.row.slh) ?_; clear hF a; intro a hF
    refine ls_val hF (.free rfl) rfl rfl (ex_leq rfl rfl rfl) ?_; clear hF a; intro a hF
    refine ls_val hF (.free rfl) rfl rfl (ex_move rfl rfl) ?_; clear hF a; intro a hF
    refine by_slot hF (d := 52) rfl ?_ ?_ <;> clear hF <;> intro hc hF
    ·
     refine ls_val hF (.on rfl rfl rfl rfl rfl) rfl rfl (ex_move rfl rfl) ?_; clear hF a; intro a hF
     refine ls_val hF (.on rfl rfl rfl rfl rfl) rfl rfl (ex_geq rfl rfl rfl) ?_; clear hF a; intro a hF
     refine ls_val hF (.free rfl) rfl rfl (ex_pick_t rfl rfl rfl) ?_; clear hF a; intro a hF
     refine ls_val hF (.free rfl) rfl rfl (ex_move rfl rfl) ?_; clear hF a; intro a hF
     refine by_slot hF (d := 56) rfl ?_ ?_ <;> clear hF <;> intro hc hF
     ·
      refine ls_val hF (.on rfl rfl rfl rfl rfl) rfl rfl (ex_move rfl rfl) ?_; clear hF a; intro a hF
      refine ls_val hF (.on rfl rfl rfl rfl rfl) rfl rfl (ex_leq rfl rfl rfl) ?_; clear hF a; intro a hF
      refine ls_val hF (.free rfl) rfl rfl (ex_pick_t rfl rfl rfl) ?_; clear hF a; intro a hF
      refine ls_val hF (.free rfl) rfl rfl (ex_move rfl rfl) ?_; clear hF a; intro a hF
      refine by_slot hF (d := 60) rfl ?_ ?_ <;> clear hF <;> intro hc hF
      ·
       refine ls_val hF (.on rfl rfl rfl rfl rfl) rfl rfl (ex_move rfl rfl) ?_; clear hF a; intro a hF
       refine ls_val hF (.on rfl rfl rfl rfl rfl) rfl rfl (ex_geq rfl rfl rfl) ?_; clear hF a; intro a hF
       refine ls_val hF (.free rfl) rfl rfl (ex_pick_t rfl rfl rfl) ?_; clear hF a; intro a hF
       refine ls_val hF (.free rfl) rfl rfl (ex_move rfl rfl) ?_; clear hF a; intro a hF
       refine by_slot hF (d := 64) rfl ?_ ?_ <;> clear hF <;> intro hc hF
       ·
        refine ls_val hF (.on rfl rfl rfl rfl rfl) rfl rfl (ex_move rfl rfl) ?_; clear hF a; intro a hF
        refine ls_val hF (.on rfl rfl rfl rfl rfl) rfl rfl (ex_leq rfl rfl rfl) ?_; clear hF a; intro a hF
        refine ls_val hF (.free rfl) rfl rfl (ex_pick_t rfl rfl rfl) ?_; clear hF a; intro a hF
        refine ls_val hF (.free rfl) rfl rfl (ex_move rfl rfl) ?_; clear hF a; intro a hF
        refine by_slot hF (d := 68) rfl ?_ ?_ <;> clear hF <;> intro hc hF
        ·
         refine ls_val hF (.on rfl rfl rfl rfl rfl) rfl rfl (ex_move rfl rfl) ?_; clear hF a; intro a hF
         refine ls_val hF (.on rfl rfl rfl rfl rfl) rfl rfl (ex_geq rfl rfl rfl) ?_; clear hF a; intro a hF
         refine ls_val hF (.free rfl) rfl rfl (ex_pick_t rfl rfl rfl) ?_; clear hF a; intro a hF
         refine ls_val hF (.free rfl) rfl rfl (ex_move rfl rfl) ?_; clear hF a; intro a hF
         refine by_slot hF (d := 72) rfl ?_ ?_ <;> clear hF <;> intro hc hF
         ·
          refine ls_val hF (.on rfl rfl rfl rfl rfl) rfl rfl (ex_move rfl rfl) ?_; clear hF a; intro a hF
          refine ls_val hF (.on rfl rfl rfl rfl rfl) rfl rfl (ex_leq rfl rfl rfl) ?_; clear hF a; intro a hF
          refine ls_val hF (.free rfl) rfl rfl (ex_pick_t rfl rfl rfl) ?_; clear hF a; intro a hF
          refine ls_val hF (.free rfl) rfl rfl (ex_assign rfl rfl) ?_; clear hF a; intro a hF
          refine ls_nil ?_
          refine then_normal ?_
          refine wp_ret ?_
          refine (fin1 hF rfl rfl ⟨_, rfl, ?_⟩)
          exact ⟨B_congr (by exact ⟨fun hh => ⟨by omega, by omega, by omega, by omega, by omega, by omega, by omega, fun k k0 k1 => hall k k0 (by omega)⟩, fun hk => by have b1 := hk.few; have b2 := hk.w1; have b3 := hk.w2; have b4 := hk.h1; have b5 := hk.h2; have b6 := hk.k1; have b7 := hk.k2; omega⟩), hS⟩
         ·
          refine ls_off hF (.on rfl rfl rfl rfl rfl) rfl rfl ?_; clear hF a; intro a hF
          refine ls_off hF (.on rfl rfl rfl rfl rfl) rfl rfl ?_; clear hF a; intro a hF
          refine ls_val hF (.free rfl) rfl rfl (ex_pick_f rfl rfl rfl) ?_; clear hF a; intro a hF
          refine ls_val hF (.free rfl) rfl rfl (ex_assign rfl rfl) ?_; clear hF a; intro a hF
          refine ls_nil ?_
          refine then_normal ?_
          refine wp_ret ?_
          refine (fin1 hF rfl rfl ⟨_, rfl, ?_⟩)
          exact ⟨false_B (by intro hk; have b1 := hk.few; have b2 := hk.w1; have b3 := hk.w2; have b4 := hk.h1; have b5 := hk.h2; have b6 := hk.k1; have b7 := hk.k2; first | omega | (have b9 := hk.all i (by omega) (by omega); unfold Dem.each at b9; omega)), hS⟩
        ·
         refine ls_off hF (.on rfl rfl rfl rfl rfl) rfl rfl ?_; clear hF a; intro a hF
         refine ls_off hF (.on rfl rfl rfl rfl rfl) rfl rfl ?_; clear hF a; intro a hF
         refine ls_val hF (.free rfl) rfl rfl (ex_pick_f rfl rfl rfl) ?_; clear hF a; intro a hF
         refine ls_val hF (.free rfl) rfl rfl (ex_move rfl rfl) ?_; clear hF a; intro a hF
         refine ls_off hF (.on rfl rfl rfl rfl rfl) rfl rfl ?_; clear hF a; intro a hF
         refine ls_off hF (.on rfl rfl rfl rfl rfl) rfl rfl ?_; clear hF a; intro a hF
         refine ls_val hF (.free rfl) rfl rfl (ex_pick_f rfl rfl rfl) ?_; clear hF a; intro a hF
         refine ls_val hF (.free rfl) rfl rfl (ex_assign rfl rfl) ?_; clear hF a; intro a hF
         refine ls_nil ?_
         refine then_normal ?_
         refine wp_ret ?_
         refine (fin1 hF rfl rfl ⟨_, rfl, ?_⟩)
         exact ⟨false_B (by intro hk; have b1 := hk.few; have b2 := hk.w1; have b3 := hk.w2; have b4 := hk.h1; have b5 := hk.h2; have b6 := hk.k1; have b7 := hk.k2; first | omega | (have b9 := hk.all i (by omega) (by omega); unfold Dem.each at b9; omega)), hS⟩
       ·
        refine ls_off hF (.on rfl rfl rfl rfl rfl) rfl rfl ?_; clear hF a; intro a hF
        refine ls_off hF (.on rfl rfl rfl rfl rfl) rfl rfl ?_; clear hF a; intro a hF
        refine ls_val hF (.free rfl) rfl rfl (ex_pick_f rfl rfl rfl) ?_; clear hF a; intro a hF
        refine ls_val hF (.free rfl) rfl rfl (ex_move rfl rfl) ?_; clear hF a; intro a hF
        refine ls_off hF (.on rfl rfl rfl rfl rfl) rfl rfl ?_; clear hF a; intro a hF
        refine ls_off hF (.on rfl rfl rfl rfl rfl) rfl rfl ?_; clear hF a; intro a hF
        refine ls_val hF (.free rfl) rfl rfl (ex_pick_f rfl rfl rfl) ?_; clear hF a; intro a hF
        refine ls_val hF (.free rfl) rfl rfl (ex_move rfl rfl) ?_; clear hF a; intro a hF
        refine ls_off hF (.on rfl rfl rfl rfl rfl) rfl rfl ?_; clear hF a; intro a hF
        refine ls_off hF (.on rfl rfl rfl rfl rfl) rfl rfl ?_; clear hF a; intro a hF
        refine ls_val hF (.free rfl) rfl rfl (ex_pick_f rfl rfl rfl) ?_; clear hF a; intro a hF
        refine ls_val hF (.free rfl) rfl rfl (ex_assign rfl rfl) ?_; clear hF a; intro a hF
        refine ls_nil ?_
        refine then_normal ?_
        refine wp_ret ?_
        refine (fin1 hF rfl rfl ⟨_, rfl, ?_⟩)
        exact ⟨false_B (by intro hk; have b1 := hk.few; have b2 := hk.w1; have b3 := hk.w2; have b4 := hk.h1; have b5 := hk.h2; have b6 := hk.k1; have b7 := hk.k2; first | omega | (have b9 := hk.all i (by omega) (by omega); unfold Dem.each at b9; omega)), hS⟩
      ·
       refine ls_off hF (.on rfl rfl rfl rfl rfl) rfl rfl ?_; clear hF a; intro a hF
       refine ls_off hF (.on rfl rfl rfl rfl rfl) rfl rfl ?_; clear hF a; intro a hF
       refine ls_val hF (.free rfl) rfl rfl (ex_pick_f rfl rfl rfl) ?_; clear hF a; intro a hF
       refine ls_val hF (.free rfl) rfl rfl (ex_move rfl rfl) ?_; clear hF a; intro a hF
       refine ls_off hF (.on rfl rfl rfl rfl rfl) rfl rfl ?_; clear hF a; intro a hF
       refine ls_off hF (.on rfl rfl rfl rfl rfl) rfl rfl ?_; clear hF a; intro a hF
       refine ls_val hF (.free rfl) rfl rfl (ex_pick_f rfl rfl rfl) ?_; clear hF a; intro a hF
       refine ls_val hF (.free rfl) rfl rfl (ex_move rfl rfl) ?_; clear hF a; intro a hF
       refine ls_off hF (.on rfl rfl rfl rfl rfl) rfl rfl ?_; clear hF a; intro a hF
       refine ls_off hF (.on rfl rfl rfl rfl rfl) rfl rfl ?_; clear hF a; intro a hF
       refine ls_val hF (.free rfl) rfl rfl (ex_pick_f rfl rfl rfl) ?_; clear hF a; intro a hF
       refine ls_val hF (.free rfl) rfl rfl (ex_move rfl rfl) ?_; clear hF a; intro a hF
       refine ls_off hF (.on rfl rfl rfl rfl rfl) rfl rfl ?_; clear hF a; intro a hF
       refine ls_off hF (.on rfl rfl rfl rfl rfl) rfl rfl ?_; clear hF a; intro a hF
       refine ls_val hF (.free rfl) rfl rfl (ex_pick_f rfl rfl rfl) ?_; clear hF a; intro a hF
       refine ls_val hF (.free rfl) rfl rfl (ex_assign rfl rfl) ?_; clear hF a; intro a hF
       refine ls_nil ?_
       refine then_normal ?_
       refine wp_ret ?_
       refine (fin1 hF rfl rfl ⟨_, rfl, ?_⟩)
       exact ⟨false_B (by intro hk; have b1 := hk.few; have b2 := hk.w1; have b3 := hk.w2; have b4 := hk.h1; have b5 := hk.h2; have b6 := hk.k1; have b7 := hk.k2; first | omega | (have b9 := hk.all i (by omega) (by omega); unfold Dem.each at b9; omega)), hS⟩
     ·
      refine ls_off hF (.on rfl rfl rfl rfl rfl) rfl rfl ?_; clear hF a; intro a hF
      refine ls_off hF (.on rfl rfl rfl rfl rfl) rfl rfl ?_; clear hF a; intro a hF
      refine ls_val hF (.free rfl) rfl rfl (ex_pick_f rfl rfl rfl) ?_; clear hF a; intro a hF
      refine ls_val hF (.free rfl) rfl rfl (ex_move rfl rfl) ?_; clear hF a; intro a hF
      refine ls_off hF (.on rfl rfl rfl rfl rfl) rfl rfl ?_; clear hF a; intro a hF
      refine ls_off hF (.on rfl rfl rfl rfl rfl) rfl rfl ?_; clear hF a; intro a hF
      refine ls_val hF (.free rfl) rfl rfl (ex_pick_f rfl rfl rfl) ?_; clear hF a; intro a hF
      refine ls_val hF (.free rfl) rfl rfl (ex_move rfl rfl) ?_; clear hF a; intro a hF
      refine ls_off hF (.on rfl rfl rfl rfl rfl) rfl rfl ?_; clear hF a; intro a hF
      refine ls_off hF (.on rfl rfl rfl rfl rfl) rfl rfl ?_; clear hF a; intro a hF
      refine ls_val hF (.free rfl) rfl rfl (ex_pick_f rfl rfl rfl) ?_; clear hF a; intro a hF
      refine ls_val hF (.free rfl) rfl rfl (ex_move rfl rfl) ?_; clear hF a; intro a hF
      refine ls_off hF (.on rfl rfl rfl rfl rfl) rfl rfl ?_; clear hF a; intro a hF
      refine ls_off hF (.on rfl rfl rfl rfl rfl) rfl rfl ?_; clear hF a; intro a hF
      refine ls_val hF (.free rfl) rfl rfl (ex_pick_f rfl rfl rfl) ?_; clear hF a; intro a hF
      refine ls_val hF (.free rfl) rfl rfl (ex_move rfl rfl) ?_; clear hF a; intro a hF
      refine ls_off hF (.on rfl rfl rfl rfl rfl) rfl rfl ?_; clear hF a; intro a hF
      refine ls_off hF (.on rfl rfl rfl rfl rfl) rfl rfl ?_; clear hF a; intro a hF
      refine ls_val hF (.free rfl) rfl rfl (ex_pick_f rfl rfl rfl) ?_; clear hF a; intro a hF
      refine ls_val hF (.free rfl) rfl rfl (ex_assign rfl rfl) ?_; clear hF a; intro a hF
      refine ls_nil ?_
      refine then_normal ?_
      refine wp_ret ?_
      refine (fin1 hF rfl rfl ⟨_, rfl, ?_⟩)
      exact ⟨false_B (by intro hk; have b1 := hk.few; have b2 := hk.w1; have b3 := hk.w2; have b4 := hk.h1; have b5 := hk.h2; have b6 := hk.k1; have b7 := hk.k2; first | omega | (have b9 := hk.all i (by omega) (by omega); unfold Dem.each at b9; omega)), hS⟩
    ·
     refine ls_off hF (.on rfl rfl rfl rfl rfl) rfl rfl ?_; clear hF a; intro a hF
     refine ls_off hF (.on rfl rfl rfl rfl rfl) rfl rfl ?_; clear hF a; intro a hF
     refine ls_val hF (.free rfl) rfl rfl (ex_pick_f rfl rfl rfl) ?_; clear hF a; intro a hF
     refine ls_val hF (.free rfl) rfl rfl (ex_move rfl rfl) ?_; clear hF a; intro a hF
     refine ls_off hF (.on rfl rfl rfl rfl rfl) rfl rfl ?_; clear hF a; intro a hF
     refine ls_off hF (.on rfl rfl rfl rfl rfl) rfl rfl ?_; clear hF a; intro a hF
     refine ls_val hF (.free rfl) rfl rfl (ex_pick_f rfl rfl rfl) ?_; clear hF a; intro a hF
     refine ls_val hF (.free rfl) rfl rfl (ex_move rfl rfl) ?_; clear hF a; intro a hF
     refine ls_off hF (.on rfl rfl rfl rfl rfl) rfl rfl ?_; clear hF a; intro a hF
     refine ls_off hF (.on rfl rfl rfl rfl rfl) rfl rfl ?_; clear hF a; intro a hF
     refine ls_val hF (.free rfl) rfl rfl (ex_pick_f rfl rfl rfl) ?_; clear hF a; intro a hF
     refine ls_val hF (.free rfl) rfl rfl (ex_move rfl rfl) ?_; clear hF a; intro a hF
     refine ls_off hF (.on rfl rfl rfl rfl rfl) rfl rfl ?_; clear hF a; intro a hF
     refine ls_off hF (.on rfl rfl rfl rfl rfl) rfl rfl ?_; clear hF a; intro a hF
     refine ls_val hF (.free rfl) rfl rfl (ex_pick_f rfl rfl rfl) ?_; clear hF a; intro a hF
     refine ls_val hF (.free rfl) rfl rfl (ex_move rfl rfl) ?_; clear hF a; intro a hF
     refine ls_off hF (.on rfl rfl rfl rfl rfl) rfl rfl ?_; clear hF a; intro a hF
     refine ls_off hF (.on rfl rfl rfl rfl rfl) rfl rfl ?_; clear hF a; intro a hF
     refine ls_val hF (.free rfl) rfl rfl (ex_pick_f rfl rfl rfl) ?_; clear hF a; intro a hF
     refine ls_val hF (.free rfl) rfl rfl (ex_move rfl rfl) ?_; clear hF a; intro a hF
     refine ls_off hF (.on rfl rfl rfl rfl rfl) rfl rfl ?_; clear hF a; intro a hF
     refine ls_off hF (.on rfl rfl rfl rfl rfl) rfl rfl ?_; clear hF a; intro a hF
     refine ls_val hF (.free rfl) rfl rfl (ex_pick_f rfl rfl rfl) ?_; clear hF a; intro a hF
     refine ls_val hF (.free rfl) rfl rfl (ex_assign rfl rfl) ?_; clear hF a; intro a hF
     refine ls_nil ?_
     refine then_normal ?_
     refine wp_ret ?_
     refine (fin1 hF rfl rfl ⟨_, rfl, ?_⟩)
     exact ⟨false_B (by intro hk; have b1 := hk.few; have b2 := hk.w1; have b3 := hk.w2; have b4 := hk.h1; have b5 := hk.h2; have b6 := hk.k1; have b7 := hk.k2; first | omega | (have b9 := hk.all i (by omega) (by omega); unfold Dem.each at b9; omega)), hS⟩

end Go.Proofs.Ytmlfpniaknmmfaa
