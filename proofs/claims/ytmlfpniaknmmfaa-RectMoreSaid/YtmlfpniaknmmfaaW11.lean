/- The walks of the statements RectMore and RectDual. -/
import Derived.Test.YtmlfpniaknmmfaaW10
namespace Go.Proofs.Ytmlfpniaknmmfaa
open Go Go.RowKit Go.Proofs.Gw
set_option linter.unusedVariables false

theorem ar_63 : arrayT Try.prog 63 = some (3, 5, 1) := by kernel_rfl
theorem it_3 : Try.prog.underlying 3 = some (.int .i64) := by kernel_rfl
theorem pl_5 : plainT Try.prog 5 = true := by kernel_rfl
theorem pl_69 : plainT Try.prog 69 = true := by kernel_rfl
theorem sl_68 : sliceT Try.prog 68 = some (69, 1) := by kernel_rfl
theorem so_5 : (Try.prog.underlying 5).isSome = true := by kernel_rfl
theorem so_69 : (Try.prog.underlying 69).isSome = true := by kernel_rfl
set_option maxRecDepth 20000 in
theorem law_more {x : Crt} {vD : Value} {d : Dem} {s : Sht} {n0 n1 n2 : Int} (w0 : World) (hD : DAt w0 vD d.n d.W d.H d.N) (hs : (-9223372036854775808 ≤ s.w ∧ s.w ≤ 9223372036854775807) ∧ (-9223372036854775808 ≤ s.h ∧ s.h ≤ 9223372036854775807) ∧ (-9223372036854775808 ≤ s.kf ∧ s.kf ≤ 9223372036854775807)) (hx : (-9223372036854775808 ≤ x.a ∧ x.a ≤ 9223372036854775807) ∧ (-9223372036854775808 ≤ x.p ∧ x.p ≤ 9223372036854775807) ∧ (-9223372036854775808 ≤ x.b ∧ x.b ≤ 9223372036854775807) ∧ (-9223372036854775808 ≤ x.q ∧ x.q ≤ 9223372036854775807)) (hn0 : 0 ≤ n0 ∧ n0 ≤ 255) (hn1_ : 0 ≤ n1 ∧ n1 ≤ 255) (hn2 : 0 ≤ n2 ∧ n2 ≤ 255) :
    Calls Try.prog 7 [.agg #[vD, .int .i64 s.w, .int .i64 s.h, .int .i64 s.kf], .agg #[.int .i64 x.a, .int .i64 x.p, .int .i64 x.b, .int .i64 x.q], .agg #[.int .u8 n0, .int .u8 n1, .int .u8 n2]].toArray w0 fun e w => ∃ v, e = .returned v ∧ v = .bool true ∧ Sat w0 w [] := by
  have hn := hD.row.slh.n0; have hn1 := hD.row.slh.n1
  refine enterS (vs := [.agg #[vD, .int .i64 s.w, .int .i64 s.h, .int .i64 s.kf], .agg #[.int .i64 x.a, .int .i64 x.p, .int .i64 x.b, .int .i64 x.q], .agg #[.int .u8 n0, .int .u8 n1, .int .u8 n2]]) Try.func7 rfl Try.ntmps7 rfl ?_
  intro a w hS hF
  refine cw_seq ?_
  refine wp_region_lit ?_
  refine ls_any hF (.free rfl) rfl rfl (ex_box (cs := [vD, .int .i64 s.w, .int .i64 s.h, .int .i64 s.kf]) rfl hS rfl rfl) ?_; clear hF; rintro _ w ⟨g1, rfl, hS⟩ a hF
  replace hS : Sat w0 w [.blk g1 [vD, .int .i64 s.w, .int .i64 s.h, .int .i64 s.kf]] := hS
  refine ls_any hF (.free rfl) rfl rfl (ex_box (cs := [.int .i64 x.a, .int .i64 x.p, .int .i64 x.b, .int .i64 x.q]) rfl hS rfl rfl) ?_; clear hF; rintro _ w ⟨g2, rfl, hS⟩ a hF
  replace hS : Sat w0 w [.blk g1 [vD, .int .i64 s.w, .int .i64 s.h, .int .i64 s.kf], .blk g2 [.int .i64 x.a, .int .i64 x.p, .int .i64 x.b, .int .i64 x.q]] := hS
  refine ls_any hF (.free rfl) rfl rfl (ex_box (cs := [.int .u8 n0, .int .u8 n1, .int .u8 n2]) rfl hS rfl rfl) ?_; clear hF; rintro _ w ⟨g3, rfl, hS⟩ a hF
  replace hS : Sat w0 w [.blk g1 [vD, .int .i64 s.w, .int .i64 s.h, .int .i64 s.kf], .blk g2 [.int .i64 x.a, .int .i64 x.p, .int .i64 x.b, .int .i64 x.q], .blk g3 [.int .u8 n0, .int .u8 n1, .int .u8 n2]] := hS
  refine ls_val hF (.free rfl) rfl rfl (ex_assign rfl rfl) ?_; clear hF a; intro a hF
  refine ls_nil ?_
  refine then_normal ?_
  refine cw_seq ?_
  refine cw_seq ?_
  refine wp_region_lit ?_
  refine ls_call hF (.free rfl) rfl rfl (ex_call0 rfl rfl cl_10 args0) (c_awake w) ?_; clear hF; rintro _ w ⟨rfl, hS'⟩ a hF
  replace hS : Sat w0 w [.blk g1 [vD, .int .i64 s.w, .int .i64 s.h, .int .i64 s.kf], .blk g2 [.int .i64 x.a, .int .i64 x.p, .int .i64 x.b, .int .i64 x.q], .blk g3 [.int .u8 n0, .int .u8 n1, .int .u8 n2]] := hS.comp hS'; clear hS'
  refine ls_val hF (.free rfl) rfl rfl (ex_not_t rfl rfl) ?_; clear hF a; intro a hF
  refine ls_nil ?_
  refine then_normal ?_
  refine cw_f hF rfl ?_
  refine wp_skip ?_
  refine then_normal ?_
  refine cw_seq ?_
  refine cw_seq ?_
  refine wp_region_lit ?_
  refine ls_val hF (.free rfl) rfl rfl (ex_field (b := ⟨g1, 0, none⟩) rfl fd_24_0 rfl rfl) ?_; clear hF a; intro a hF
  refine ls_val hF (.free rfl) rfl rfl (ex_load_blk 0 rfl pl_22 rfl hS rfl rfl) ?_; clear hF a; intro a hF
  refine ls_call hF (.free rfl) rfl rfl (ex_call0 rfl rfl cl_11 (args_cons rfl args0)) (c_few (d := d) w (hD.below hS.below)) ?_; clear hF; rintro _ w ⟨rfl, hS'⟩ a hF
  replace hS : Sat w0 w [.blk g1 [vD, .int .i64 s.w, .int .i64 s.h, .int .i64 s.kf], .blk g2 [.int .i64 x.a, .int .i64 x.p, .int .i64 x.b, .int .i64 x.q], .blk g3 [.int .u8 n0, .int .u8 n1, .int .u8 n2]] := hS.comp hS'; clear hS'
  refine ls_val hF (.free rfl) rfl rfl (ex_not rfl rfl) ?_; clear hF a; intro a hF
  refine ls_val hF (.free rfl) rfl rfl (ex_move rfl rfl) ?_; clear hF a; intro a hF
  refine by_slot hF (d := 19) rfl ?_ ?_ <;> clear hF <;> intro hc hF
  ·
   refine ls_off hF (.on rfl rfl rfl rfl rfl) rfl rfl ?_; clear hF a; intro a hF
   refine ls_off hF (.on rfl rfl rfl rfl rfl) rfl rfl ?_; clear hF a; intro a hF
   refine ls_off hF (.on rfl rfl rfl rfl rfl) rfl rfl ?_; clear hF a; intro a hF
   refine ls_off hF (.on rfl rfl rfl rfl rfl) rfl rfl ?_; clear hF a; intro a hF
   refine ls_val hF (.free rfl) rfl rfl (ex_pick_t rfl rfl rfl) ?_; clear hF a; intro a hF
   refine ls_nil ?_
   refine then_normal ?_
   refine cw_t hF rfl ?_
   refine cw_seq ?_
   refine wp_region_lit ?_
   refine ls_val hF (.free rfl) rfl rfl (ex_assign rfl rfl) ?_; clear hF a; intro a hF
   refine ls_nil ?_
   refine then_normal ?_
   refine wp_ret ?_
   refine then_ret ((fin1 hF rfl rfl ⟨_, rfl, ?_⟩))
   exact ⟨rfl, hS.sub (.cons _ (.cons _ (.cons _ .slnil)))⟩
  ·
   refine ls_val hF (.on rfl rfl rfl rfl rfl) rfl rfl (ex_field (b := ⟨g1, 0, none⟩) rfl fd_24_0 rfl rfl) ?_; clear hF a; intro a hF
   refine ls_val hF (.on rfl rfl rfl rfl rfl) rfl rfl (ex_load_blk 0 rfl pl_22 rfl hS rfl rfl) ?_; clear hF a; intro a hF
   refine ls_val hF (.on rfl rfl rfl rfl rfl) rfl rfl (ex_len rfl sl_22 rfl hD.row.slh) ?_; clear hF a; intro a hF
   refine ls_val hF (.on rfl rfl rfl rfl rfl) rfl rfl (ex_eql rfl rfl rfl) ?_; clear hF a; intro a hF
   refine ls_val hF (.free rfl) rfl rfl (ex_pick_f rfl rfl rfl) ?_; clear hF a; intro a hF
   refine ls_nil ?_
   refine then_normal ?_
   refine cw_if hF rfl (fun hc => ?_) (fun hc => ?_)
   ·
    refine cw_seq ?_
    refine wp_region_lit ?_
    refine ls_val hF (.free rfl) rfl rfl (ex_assign rfl rfl) ?_; clear hF a; intro a hF
    refine ls_nil ?_
    refine then_normal ?_
    refine wp_ret ?_
    refine then_ret ((fin1 hF rfl rfl ⟨_, rfl, ?_⟩))
    exact ⟨rfl, hS.sub (.cons _ (.cons _ (.cons _ .slnil)))⟩
   ·
    refine wp_skip ?_
    refine then_normal ?_
    refine cw_seq ?_
    refine wp_region_lit ?_
    refine ls_val hF (.free rfl) rfl rfl (ex_field (b := ⟨g1, 0, none⟩) rfl fd_24_0 rfl rfl) ?_; clear hF a; intro a hF
    refine ls_val hF (.free rfl) rfl rfl (ex_load_blk 0 rfl pl_22 rfl hS rfl rfl) ?_; clear hF a; intro a hF
    refine ls_call hF (.free rfl) rfl rfl (ex_call0 rfl rfl cl_14 (args_cons rfl args0)) (c_own (d := d) w (hD.below hS.below) (by omega)) ?_; clear hF; rintro vo1 w ⟨_, rfl, hslo1, hS'⟩ a hF
    replace hS : Sat w0 w [.blk g1 [vD, .int .i64 s.w, .int .i64 s.h, .int .i64 s.kf], .blk g2 [.int .i64 x.a, .int .i64 x.p, .int .i64 x.b, .int .i64 x.q], .blk g3 [.int .u8 n0, .int .u8 n1, .int .u8 n2], .own vo1 3 60 d.n (dcells d.W d.H d.N)] := hS.comp hS'; clear hS'
    refine ls_val hF (.free rfl) rfl rfl (ex_assign rfl rfl) ?_; clear hF a; intro a hF
    refine ls_nil ?_
    refine then_normal ?_
    refine cw_seq ?_
    refine dr_sat (m0 := [.blk g1 [vD, .int .i64 s.w, .int .i64 s.h, .int .i64 s.kf], .blk g2 [.int .i64 x.a, .int .i64 x.p, .int .i64 x.b, .int .i64 x.q], .blk g3 [.int .u8 n0, .int .u8 n1, .int .u8 n2], .own vo1 3 60 d.n (dcells d.W d.H d.N)]) (m1 := [.blk g1 [vD, .int .i64 s.w, .int .i64 s.h, .int .i64 s.kf], .blk g2 [.int .i64 x.a, .int .i64 x.p, .int .i64 x.b, .int .i64 x.q], .blk g3 [.int .u8 n0, .int .u8 n1, .int .u8 n2], .own vo1 3 60 d.n (dcells d.W d.H d.N)]) 1000 mx_ hS (.cons_cons _ (.cons_cons _ (.cons_cons _ (.cons_cons _ .slnil)))) (.cons_cons _ (.cons_cons _ (.cons_cons _ (.cons_cons _ .slnil)))) rfl ?_; clear hS; intro w hS hcl hB
    refine dr_loadA hF hcl hB 0 rfl (.free rfl) rfl rfl (by kernel_rfl) rfl (fun w hS => (ex_loads_blk 1 rfl st_28 rfl hS rfl rfl)) ?_; clear hF a hcl hB; intro a hF hcl hB
    refine dr_val hF hcl hB 2 rfl (.free rfl) rfl rfl (by kernel_rfl) rfl (fun w => (ex_move rfl rfl)) ?_; clear hF a hcl hB; intro a hF hcl hB
    refine dr_val hF hcl hB 3 rfl (.free rfl) rfl rfl (by kernel_rfl) rfl (fun w => (ex_field (b := ⟨g1, 1, none⟩) rfl fd_24_1 rfl rfl)) ?_; clear hF a hcl hB; intro a hF hcl hB
    refine dr_loadA hF hcl hB 4 rfl (.free rfl) rfl rfl (by kernel_rfl) rfl (fun w hS => (ex_load_blk 0 rfl pl_3 rfl hS rfl rfl)) ?_; clear hF a hcl hB; intro a hF hcl hB
    refine dr_val hF hcl hB 5 rfl (.free rfl) rfl rfl (by kernel_rfl) rfl (fun w => (ex_field (b := ⟨g1, 2, none⟩) rfl fd_24_2 rfl rfl)) ?_; clear hF a hcl hB; intro a hF hcl hB
    refine dr_loadA hF hcl hB 6 rfl (.free rfl) rfl rfl (by kernel_rfl) rfl (fun w hS => (ex_load_blk 0 rfl pl_3 rfl hS rfl rfl)) ?_; clear hF a hcl hB; intro a hF hcl hB
    refine dr_val hF hcl hB 7 rfl (.free rfl) rfl rfl (by kernel_rfl) rfl (fun w => (ex_field (b := ⟨g1, 3, none⟩) rfl fd_24_3 rfl rfl)) ?_; clear hF a hcl hB; intro a hF hcl hB
    refine dr_loadA hF hcl hB 8 rfl (.free rfl) rfl rfl (by kernel_rfl) rfl (fun w hS => (ex_load_blk 0 rfl pl_3 rfl hS rfl rfl)) ?_; clear hF a hcl hB; intro a hF hcl hB
    refine dr_call hF hcl 1 rfl (.free rfl) rfl rfl (by kernel_rfl) (ex_call0 rfl rfl cl_13 (args_cons rfl args0)) (c_cert (x := x) w) ?_; clear hF hB; rintro _ w ⟨rfl, hS'⟩ a hF hcl
    replace hS : Sat w0 w [.blk g1 [vD, .int .i64 s.w, .int .i64 s.h, .int .i64 s.kf], .blk g2 [.int .i64 x.a, .int .i64 x.p, .int .i64 x.b, .int .i64 x.q], .blk g3 [.int .u8 n0, .int .u8 n1, .int .u8 n2], .own vo1 3 60 d.n (dcells d.W d.H d.N)] := hS.comp hS'; clear hS'
    refine ⟨⟨(fun _ => hS.sub (.cons_cons _ (.cons_cons _ (.cons_cons _ (.cons_cons _ .slnil))))), hS.sub (.cons_cons _ (.cons_cons _ (.cons_cons _ (.cons_cons _ .slnil))))⟩, fun hB => ?_⟩
    refine dr_call hF hcl 9 rfl (.free rfl) rfl rfl (by kernel_rfl) (ex_call0 rfl rfl cl_12 (args_cons rfl (args_cons rfl (args_cons rfl (args_cons rfl (args_cons rfl args0)))))) (c_Value (x := x) (d := d) (s := s) w (⟨(hS.rowN 3 rfl), hD.bw, hD.bh, hD.bn⟩ : DAt _ _ d.n d.W d.H d.N) hs hx) ?_; clear hF hB; rintro _ w ⟨az1, ez1, rfl, hrz1, hS'⟩ a hF hcl
    replace hS : Sat w0 w [.blk g1 [vD, .int .i64 s.w, .int .i64 s.h, .int .i64 s.kf], .blk g2 [.int .i64 x.a, .int .i64 x.p, .int .i64 x.b, .int .i64 x.q], .blk g3 [.int .u8 n0, .int .u8 n1, .int .u8 n2], .own vo1 3 60 d.n (dcells d.W d.H d.N)] := hS.comp hS'; clear hS'
    refine ⟨⟨(fun _ => hS.sub (.cons_cons _ (.cons_cons _ (.cons_cons _ (.cons_cons _ .slnil))))), hS.sub (.cons_cons _ (.cons_cons _ (.cons_cons _ (.cons_cons _ .slnil))))⟩, fun hB => ?_⟩
    refine dr_val hF hcl hB 10 rfl (.free rfl) rfl rfl (by kernel_rfl) rfl (fun w => (ex_move rfl rfl)) ?_; clear hF a hcl hB; intro a hF hcl hB
    refine dr_val hF hcl hB 11 rfl (.free rfl) rfl rfl (by kernel_rfl) rfl (fun w => (ex_extract rfl rfl rfl)) ?_; clear hF a hcl hB; intro a hF hcl hB
    refine dr_val hF hcl hB 12 rfl (.free rfl) rfl rfl (by kernel_rfl) rfl (fun w => (ex_extract rfl rfl rfl)) ?_; clear hF a hcl hB; intro a hF hcl hB
    refine dr_val hF hcl hB 13 rfl (.free rfl) rfl rfl (by kernel_rfl) rfl (fun w => (ex_assign rfl rfl)) ?_; clear hF a hcl hB; intro a hF hcl hB
    refine dr_val hF hcl hB 14 rfl (.free rfl) rfl rfl (by kernel_rfl) rfl (fun w => (ex_assign rfl rfl)) ?_; clear hF a hcl hB; intro a hF hcl hB
    refine dr_done (by kernel_rfl) ?_; clear hcl hB
    refine then_normal ?_
    refine cw_seq ?_
    refine cw_seq ?_
    refine wp_region_lit ?_
    refine ls_val hF (.free rfl) rfl rfl (ex_move rfl rfl) ?_; clear hF a; intro a hF
    refine ls_val hF (.free rfl) rfl rfl (ex_neq rfl rfl rfl) ?_; clear hF a; intro a hF
    refine ls_nil ?_
    refine then_normal ?_
    refine cw_if hF rfl (fun hc => ?_) (fun hc => ?_)
    ·
     refine cw_seq ?_
     refine wp_region_lit ?_
     refine ls_val hF (.free rfl) rfl rfl (ex_move rfl rfl) ?_; clear hF a; intro a hF
     have hz := hrz1.err (by omega)
     refine ls_val hF (.free rfl) rfl rfl (known_t (ex_eql rfl rfl rfl) (by omega)) ?_; clear hF a; intro a hF
     refine ls_val hF (.free rfl) rfl rfl (ex_assign rfl rfl) ?_; clear hF a; intro a hF
     refine ls_nil ?_
     refine then_normal ?_
     refine wp_ret ?_
     refine then_ret ((fin1 hF rfl rfl ⟨_, rfl, ?_⟩))
     exact ⟨rfl, hS.sub (.cons _ (.cons _ (.cons _ (.cons _ .slnil))))⟩
    ·
     refine wp_skip ?_
     refine then_normal ?_
     refine cw_seq ?_
     refine wp_region_lit ?_
     refine ls_val hF (.free rfl) rfl rfl (ex_indexArr (b := ⟨g3, 0, none⟩) rfl ar_63 rfl rfl (by omega) (by omega) rfl) ?_; clear hF a; intro a hF
     obtain ⟨hk, hok, hng, hv1⟩ := hrz1.ok (by omega)
     have b2 := hk.w1
     have b3 := hk.w2
     have b4 := hk.h1
     have b5 := hk.h2
     have b6 := hk.k1
     have b7 := hk.k2
     have b8 := hk.few
     skip
     refine ls_val hF (.free rfl) rfl rfl (ex_load_blk 2 rfl pl_5 rfl hS rfl rfl) ?_; clear hF a; intro a hF
     refine ls_val hF (.free rfl) rfl rfl (ex_conv rfl so_5 it_3 rfl (by unfold InK; omega)) ?_; clear hF a; intro a hF
     refine ls_val hF (.free rfl) rfl rfl (ex_move rfl rfl) ?_; clear hF a; intro a hF
     refine ls_val hF (.free rfl) rfl rfl (ex_len rfl sl_38 rfl hslo1) ?_; clear hF a; intro a hF
     obtain ⟨ix, hix, hix0, hix1⟩ : ∃ z, z = Int.tmod n0 d.n ∧ 0 ≤ z ∧ z < d.n := ⟨_, rfl, Int.tmod_nonneg _ (by omega), Int.tmod_lt_of_pos _ (by omega)⟩
     have hei := hk.all ix hix0 (by omega); unfold Dem.each at hei
     obtain ⟨y1, hy1, hy10, hy11⟩ : ∃ z, z = Int.tmod n1 (5 : Int) ∧ 0 ≤ z ∧ z < (5 : Int) := ⟨_, rfl, Int.tmod_nonneg _ (by omega), Int.tmod_lt_of_pos _ (by omega)⟩
     obtain ⟨y2, hy2, hy20, hy21⟩ : ∃ z, z = Int.tmod n2 (7 : Int) ∧ 0 ≤ z ∧ z < (7 : Int) := ⟨_, rfl, Int.tmod_nonneg _ (by omega), Int.tmod_lt_of_pos _ (by omega)⟩
     obtain ⟨y3, hy3, hy30, hy31⟩ : ∃ z, z = Int.tmod n2 (3 : Int) ∧ 0 ≤ z ∧ z < (3 : Int) := ⟨_, rfl, Int.tmod_nonneg _ (by omega), Int.tmod_lt_of_pos _ (by omega)⟩
     refine ls_val hF (.free rfl) rfl rfl (ex_rem (r := ix) rfl rfl rfl (by omega) (by exact hix)) ?_; clear hF a; intro a hF
     refine ls_val hF (.free rfl) rfl rfl (ex_assign rfl rfl) ?_; clear hF a; intro a hF
     refine ls_nil ?_
     refine then_normal ?_
     refine cw_seq ?_
     refine dr_sat (m0 := [.blk g1 [vD, .int .i64 s.w, .int .i64 s.h, .int .i64 s.kf], .blk g2 [.int .i64 x.a, .int .i64 x.p, .int .i64 x.b, .int .i64 x.q], .blk g3 [.int .u8 n0, .int .u8 n1, .int .u8 n2], .own vo1 3 60 d.n (dcells d.W d.H d.N)]) (m1 := [.blk g1 [vD, .int .i64 s.w, .int .i64 s.h, .int .i64 s.kf], .blk g2 [.int .i64 x.a, .int .i64 x.p, .int .i64 x.b, .int .i64 x.q], .blk g3 [.int .u8 n0, .int .u8 n1, .int .u8 n2]]) 15 mx_ hS (.cons_cons _ (.cons_cons _ (.cons_cons _ (.cons_cons _ .slnil)))) (.cons_cons _ (.cons_cons _ (.cons_cons _ (.cons _ .slnil)))) rfl ?_; clear hS; intro w hS hcl hB
     refine dr_val hF hcl hB 0 rfl (.free rfl) rfl rfl (by kernel_rfl) rfl (fun w => (ex_move rfl rfl)) ?_; clear hF a hcl hB; intro a hF hcl hB
     refine dr_val hF hcl hB 1 rfl (.free rfl) rfl rfl (by kernel_rfl) rfl (fun w => (ex_move rfl rfl)) ?_; clear hF a hcl hB; intro a hF hcl hB
     refine dr_val hF hcl hB 2 rfl (.free rfl) rfl rfl (by kernel_rfl) rfl (fun w => (ex_move rfl rfl)) ?_; clear hF a hcl hB; intro a hF hcl hB
     refine dr_val hF hcl hB 3 rfl (.free rfl) rfl rfl (by kernel_rfl) rfl (fun w => (ex_move rfl rfl)) ?_; clear hF a hcl hB; intro a hF hcl hB
     refine dr_val hF hcl hB 4 rfl (.free rfl) rfl rfl (by kernel_rfl) rfl (fun w => (ex_index (k := 3 * ix) rfl sl_38 rfl rfl hslo1 (by omega) (by omega) (by omega))) ?_; clear hF a hcl hB; intro a hF hcl hB
     refine dr_val hF hcl hB 5 rfl (.free rfl) rfl rfl (by kernel_rfl) rfl (fun w => (ex_field (b := cad vo1 (3 * ix + 2)) rfl fd_60_2 rfl (by rw [cad_add hslo1 (by omega) (by omega)]; first | rfl | (congr 1; omega)))) ?_; clear hF a hcl hB; intro a hF hcl hB
     refine dr_load hF hcl hB 6 rfl (.free rfl) rfl rfl (by kernel_rfl) rfl (by kernel_rfl) (fun w hS => (ex_load_row (u := .int .i64 (d.N ix)) rfl pl_3 rfl (hS.rowN 3 rfl) (by omega) (by omega) (dcells2 d.W d.H d.N (by omega)))) ?_; clear hF a hcl hB; intro a hF hcl hB
     have hbv := hD.bn ix
     refine dr_val hF hcl hB 7 rfl (.free rfl) rfl rfl (by kernel_rfl) rfl (fun w => (ex_indexArr (b := ⟨g3, 1, none⟩) rfl ar_63 rfl rfl (by omega) (by omega) rfl)) ?_; clear hF a hcl hB; intro a hF hcl hB
     refine dr_loadA hF hcl hB 8 rfl (.free rfl) rfl rfl (by kernel_rfl) rfl (fun w hS => (ex_load_blk 2 rfl pl_5 rfl hS rfl rfl)) ?_; clear hF a hcl hB; intro a hF hcl hB
     refine dr_val hF hcl hB 9 rfl (.free rfl) rfl rfl (by kernel_rfl) rfl (fun w => (ex_conv rfl so_5 it_3 rfl (by unfold InK; omega))) ?_; clear hF a hcl hB; intro a hF hcl hB
     refine dr_val hF hcl hB 10 rfl (.free rfl) rfl rfl (by kernel_rfl) rfl (fun w => (ex_rem (r := y1) rfl rfl rfl (by omega) (by exact hy1))) ?_; clear hF a hcl hB; intro a hF hcl hB
     refine dr_val hF hcl hB 11 rfl (.free rfl) rfl rfl (by kernel_rfl) rfl (fun w => (ex_add (r := (d.N ix) + y1) rfl rfl rfl (by omega) (by unfold I64; omega))) ?_; clear hF a hcl hB; intro a hF hcl hB
     refine dr_val hF hcl hB 12 rfl (.free rfl) rfl rfl (by kernel_rfl) rfl (fun w => (ex_min (r := (min 1000 ((d.N ix) + y1))) rfl rfl rfl rfl)) ?_; clear hF a hcl hB; intro a hF hcl hB
     refine dr_val hF hcl hB 13 rfl (.free rfl) rfl rfl (by kernel_rfl) rfl (fun w => (ex_index (k := 3 * ix) rfl sl_38 rfl rfl hslo1 (by omega) (by omega) (by omega))) ?_; clear hF a hcl hB; intro a hF hcl hB
     refine dr_val hF hcl hB 14 rfl (.free rfl) rfl rfl (by kernel_rfl) rfl (fun w => (ex_field (b := cad vo1 (3 * ix + 2)) rfl fd_60_2 rfl (by rw [cad_add hslo1 (by omega) (by omega)]; first | rfl | (congr 1; omega)))) ?_; clear hF a hcl hB; intro a hF hcl hB
     refine dr_effx hF hcl 15 rfl (.free rfl) rfl (by kernel_rfl) (st_own 3 rfl pl_3 hS rfl rfl rfl rfl (by omega) (by omega) (upd_dcells2 (i := ix) _ _ _ (by omega))) ?_; clear hS hB; rintro w hS hcl
     replace hS : Sat w0 w [.blk g1 [vD, .int .i64 s.w, .int .i64 s.h, .int .i64 s.kf], .blk g2 [.int .i64 x.a, .int .i64 x.p, .int .i64 x.b, .int .i64 x.q], .blk g3 [.int .u8 n0, .int .u8 n1, .int .u8 n2], .own vo1 3 60 d.n (dcells d.W d.H (upd d.N ix (min 1000 ((d.N ix) + y1))))] := hS
     refine ⟨⟨(fun h => absurd h (by decide)), hS.sub (.cons_cons _ (.cons_cons _ (.cons_cons _ (.cons _ .slnil))))⟩, fun hB => ?_⟩
     refine dr_done (by kernel_rfl) ?_; clear hcl hB
     refine then_normal ?_
     refine cw_seq ?_
     refine dr_sat (m0 := [.blk g1 [vD, .int .i64 s.w, .int .i64 s.h, .int .i64 s.kf], .blk g2 [.int .i64 x.a, .int .i64 x.p, .int .i64 x.b, .int .i64 x.q], .blk g3 [.int .u8 n0, .int .u8 n1, .int .u8 n2], .own vo1 3 60 d.n (dcells d.W d.H (upd d.N ix (min 1000 ((d.N ix) + y1))))]) (m1 := [.blk g1 [vD, .int .i64 s.w, .int .i64 s.h, .int .i64 s.kf], .blk g2 [.int .i64 x.a, .int .i64 x.p, .int .i64 x.b, .int .i64 x.q], .blk g3 [.int .u8 n0, .int .u8 n1, .int .u8 n2]]) 44 mx_ hS (.cons_cons _ (.cons_cons _ (.cons_cons _ (.cons_cons _ .slnil)))) (.cons_cons _ (.cons_cons _ (.cons_cons _ (.cons _ .slnil)))) rfl ?_; clear hS; intro w hS hcl hB
     refine dr_val hF hcl hB 0 rfl (.free rfl) rfl rfl (by kernel_rfl) rfl (fun w => (ex_move rfl rfl)) ?_; clear hF a hcl hB; intro a hF hcl hB
     refine dr_val hF hcl hB 1 rfl (.free rfl) rfl rfl (by kernel_rfl) rfl (fun w => (ex_move rfl rfl)) ?_; clear hF a hcl hB; intro a hF hcl hB
     refine dr_val hF hcl hB 2 rfl (.free rfl) rfl rfl (by kernel_rfl) rfl (fun w => (ex_move rfl rfl)) ?_; clear hF a hcl hB; intro a hF hcl hB
     refine dr_val hF hcl hB 3 rfl (.free rfl) rfl rfl (by kernel_rfl) rfl (fun w => (ex_move rfl rfl)) ?_; clear hF a hcl hB; intro a hF hcl hB
     refine dr_val hF hcl hB 4 rfl (.free rfl) rfl rfl (by kernel_rfl) rfl (fun w => (ex_move rfl rfl)) ?_; clear hF a hcl hB; intro a hF hcl hB
     refine dr_val hF hcl hB 5 rfl (.free rfl) rfl rfl (by kernel_rfl) rfl (fun w => (ex_move rfl rfl)) ?_; clear hF a hcl hB; intro a hF hcl hB
     refine dr_val hF hcl hB 6 rfl (.free rfl) rfl rfl (by kernel_rfl) rfl (fun w => (ex_index (k := 3 * ix) rfl sl_38 rfl rfl hslo1 (by omega) (by omega) (by omega))) ?_; clear hF a hcl hB; intro a hF hcl hB
     refine dr_val hF hcl hB 7 rfl (.free rfl) rfl rfl (by kernel_rfl) rfl (fun w => (ex_field (b := cad vo1 (3 * ix)) rfl fd_60_0 rfl (by rw [cad_add hslo1 (by omega) (by omega)]; first | rfl | (congr 1; omega)))) ?_; clear hF a hcl hB; intro a hF hcl hB
     refine dr_load hF hcl hB 8 rfl (.free rfl) rfl rfl (by kernel_rfl) rfl (by kernel_rfl) (fun w hS => (ex_load_row (u := .int .i64 (d.W ix)) rfl pl_3 rfl (hS.rowN 3 rfl) (by omega) (by omega) (dcells0 d.W d.H (upd d.N ix (min 1000 ((d.N ix) + y1))) (by omega)))) ?_; clear hF a hcl hB; intro a hF hcl hB
     have hbv := hD.bw ix
     refine dr_val hF hcl hB 9 rfl (.free rfl) rfl rfl (by kernel_rfl) rfl (fun w => (ex_field (b := ⟨g1, 1, none⟩) rfl fd_24_1 rfl rfl)) ?_; clear hF a hcl hB; intro a hF hcl hB
     refine dr_loadA hF hcl hB 10 rfl (.free rfl) rfl rfl (by kernel_rfl) rfl (fun w hS => (ex_load_blk 0 rfl pl_3 rfl hS rfl rfl)) ?_; clear hF a hcl hB; intro a hF hcl hB
     refine dr_val hF hcl hB 11 rfl (.free rfl) rfl rfl (by kernel_rfl) rfl (fun w => (ex_max (r := (max (d.W ix) s.w)) rfl rfl rfl rfl)) ?_; clear hF a hcl hB; intro a hF hcl hB
     refine dr_val hF hcl hB 12 rfl (.free rfl) rfl rfl (by kernel_rfl) rfl (fun w => (ex_move rfl rfl)) ?_; clear hF a hcl hB; intro a hF hcl hB
     refine dr_val hF hcl hB 13 rfl (.free rfl) rfl rfl (by kernel_rfl) rfl (fun w => (ex_move rfl rfl)) ?_; clear hF a hcl hB; intro a hF hcl hB
     refine dr_val hF hcl hB 14 rfl (.free rfl) rfl rfl (by kernel_rfl) rfl (fun w => (ex_index (k := 3 * ix) rfl sl_38 rfl rfl hslo1 (by omega) (by omega) (by omega))) ?_; clear hF a hcl hB; intro a hF hcl hB
     refine dr_val hF hcl hB 15 rfl (.free rfl) rfl rfl (by kernel_rfl) rfl (fun w => (ex_field (b := cad vo1 (3 * ix)) rfl fd_60_0 rfl (by rw [cad_add hslo1 (by omega) (by omega)]; first | rfl | (congr 1; omega)))) ?_; clear hF a hcl hB; intro a hF hcl hB
     refine dr_load hF hcl hB 16 rfl (.free rfl) rfl rfl (by kernel_rfl) rfl (by kernel_rfl) (fun w hS => (ex_load_row (u := .int .i64 (d.W ix)) rfl pl_3 rfl (hS.rowN 3 rfl) (by omega) (by omega) (dcells0 d.W d.H (upd d.N ix (min 1000 ((d.N ix) + y1))) (by omega)))) ?_; clear hF a hcl hB; intro a hF hcl hB
     have hbv := hD.bw ix
     refine dr_val hF hcl hB 17 rfl (.free rfl) rfl rfl (by kernel_rfl) rfl (fun w => (ex_indexArr (b := ⟨g3, 2, none⟩) rfl ar_63 rfl rfl (by omega) (by omega) rfl)) ?_; clear hF a hcl hB; intro a hF hcl hB
     refine dr_loadA hF hcl hB 18 rfl (.free rfl) rfl rfl (by kernel_rfl) rfl (fun w hS => (ex_load_blk 2 rfl pl_5 rfl hS rfl rfl)) ?_; clear hF a hcl hB; intro a hF hcl hB
     refine dr_val hF hcl hB 19 rfl (.free rfl) rfl rfl (by kernel_rfl) rfl (fun w => (ex_conv rfl so_5 it_3 rfl (by unfold InK; omega))) ?_; clear hF a hcl hB; intro a hF hcl hB
     refine dr_val hF hcl hB 20 rfl (.free rfl) rfl rfl (by kernel_rfl) rfl (fun w => (ex_rem (r := y2) rfl rfl rfl (by omega) (by exact hy2))) ?_; clear hF a hcl hB; intro a hF hcl hB
     refine dr_val hF hcl hB 21 rfl (.free rfl) rfl rfl (by kernel_rfl) rfl (fun w => (ex_add (r := (d.W ix) + y2) rfl rfl rfl (by omega) (by unfold I64; omega))) ?_; clear hF a hcl hB; intro a hF hcl hB
     refine dr_val hF hcl hB 22 rfl (.free rfl) rfl rfl (by kernel_rfl) rfl (fun w => (ex_min (r := (min (max (d.W ix) s.w) ((d.W ix) + y2))) rfl rfl rfl rfl)) ?_; clear hF a hcl hB; intro a hF hcl hB
     refine dr_val hF hcl hB 23 rfl (.free rfl) rfl rfl (by kernel_rfl) rfl (fun w => (ex_move rfl rfl)) ?_; clear hF a hcl hB; intro a hF hcl hB
     refine dr_val hF hcl hB 24 rfl (.free rfl) rfl rfl (by kernel_rfl) rfl (fun w => (ex_move rfl rfl)) ?_; clear hF a hcl hB; intro a hF hcl hB
     refine dr_val hF hcl hB 25 rfl (.free rfl) rfl rfl (by kernel_rfl) rfl (fun w => (ex_index (k := 3 * ix) rfl sl_38 rfl rfl hslo1 (by omega) (by omega) (by omega))) ?_; clear hF a hcl hB; intro a hF hcl hB
     refine dr_val hF hcl hB 26 rfl (.free rfl) rfl rfl (by kernel_rfl) rfl (fun w => (ex_field (b := cad vo1 (3 * ix + 1)) rfl fd_60_1 rfl (by rw [cad_add hslo1 (by omega) (by omega)]; first | rfl | (congr 1; omega)))) ?_; clear hF a hcl hB; intro a hF hcl hB
     refine dr_load hF hcl hB 27 rfl (.free rfl) rfl rfl (by kernel_rfl) rfl (by kernel_rfl) (fun w hS => (ex_load_row (u := .int .i64 (d.H ix)) rfl pl_3 rfl (hS.rowN 3 rfl) (by omega) (by omega) (dcells1 d.W d.H (upd d.N ix (min 1000 ((d.N ix) + y1))) (by omega)))) ?_; clear hF a hcl hB; intro a hF hcl hB
     have hbv := hD.bh ix
     refine dr_val hF hcl hB 28 rfl (.free rfl) rfl rfl (by kernel_rfl) rfl (fun w => (ex_field (b := ⟨g1, 2, none⟩) rfl fd_24_2 rfl rfl)) ?_; clear hF a hcl hB; intro a hF hcl hB
     refine dr_loadA hF hcl hB 29 rfl (.free rfl) rfl rfl (by kernel_rfl) rfl (fun w hS => (ex_load_blk 0 rfl pl_3 rfl hS rfl rfl)) ?_; clear hF a hcl hB; intro a hF hcl hB
     refine dr_val hF hcl hB 30 rfl (.free rfl) rfl rfl (by kernel_rfl) rfl (fun w => (ex_max (r := (max (d.H ix) s.h)) rfl rfl rfl rfl)) ?_; clear hF a hcl hB; intro a hF hcl hB
     refine dr_val hF hcl hB 31 rfl (.free rfl) rfl rfl (by kernel_rfl) rfl (fun w => (ex_move rfl rfl)) ?_; clear hF a hcl hB; intro a hF hcl hB
     refine dr_val hF hcl hB 32 rfl (.free rfl) rfl rfl (by kernel_rfl) rfl (fun w => (ex_move rfl rfl)) ?_; clear hF a hcl hB; intro a hF hcl hB
     refine dr_val hF hcl hB 33 rfl (.free rfl) rfl rfl (by kernel_rfl) rfl (fun w => (ex_index (k := 3 * ix) rfl sl_38 rfl rfl hslo1 (by omega) (by omega) (by omega))) ?_; clear hF a hcl hB; intro a hF hcl hB
     refine dr_val hF hcl hB 34 rfl (.free rfl) rfl rfl (by kernel_rfl) rfl (fun w => (ex_field (b := cad vo1 (3 * ix + 1)) rfl fd_60_1 rfl (by rw [cad_add hslo1 (by omega) (by omega)]; first | rfl | (congr 1; omega)))) ?_; clear hF a hcl hB; intro a hF hcl hB
     refine dr_load hF hcl hB 35 rfl (.free rfl) rfl rfl (by kernel_rfl) rfl (by kernel_rfl) (fun w hS => (ex_load_row (u := .int .i64 (d.H ix)) rfl pl_3 rfl (hS.rowN 3 rfl) (by omega) (by omega) (dcells1 d.W d.H (upd d.N ix (min 1000 ((d.N ix) + y1))) (by omega)))) ?_; clear hF a hcl hB; intro a hF hcl hB
     have hbv := hD.bh ix
     refine dr_val hF hcl hB 36 rfl (.free rfl) rfl rfl (by kernel_rfl) rfl (fun w => (ex_indexArr (b := ⟨g3, 2, none⟩) rfl ar_63 rfl rfl (by omega) (by omega) rfl)) ?_; clear hF a hcl hB; intro a hF hcl hB
     refine dr_loadA hF hcl hB 37 rfl (.free rfl) rfl rfl (by kernel_rfl) rfl (fun w hS => (ex_load_blk 2 rfl pl_5 rfl hS rfl rfl)) ?_; clear hF a hcl hB; intro a hF hcl hB
     refine dr_val hF hcl hB 38 rfl (.free rfl) rfl rfl (by kernel_rfl) rfl (fun w => (ex_conv rfl so_5 it_3 rfl (by unfold InK; omega))) ?_; clear hF a hcl hB; intro a hF hcl hB
     refine dr_val hF hcl hB 39 rfl (.free rfl) rfl rfl (by kernel_rfl) rfl (fun w => (ex_rem (r := y3) rfl rfl rfl (by omega) (by exact hy3))) ?_; clear hF a hcl hB; intro a hF hcl hB
     refine dr_val hF hcl hB 40 rfl (.free rfl) rfl rfl (by kernel_rfl) rfl (fun w => (ex_add (r := (d.H ix) + y3) rfl rfl rfl (by omega) (by unfold I64; omega))) ?_; clear hF a hcl hB; intro a hF hcl hB
     refine dr_val hF hcl hB 41 rfl (.free rfl) rfl rfl (by kernel_rfl) rfl (fun w => (ex_min (r := (min (max (d.H ix) s.h) ((d.H ix) + y3))) rfl rfl rfl rfl)) ?_; clear hF a hcl hB; intro a hF hcl hB
     refine dr_val hF hcl hB 42 rfl (.free rfl) rfl rfl (by kernel_rfl) rfl (fun w => (ex_index (k := 3 * ix) rfl sl_38 rfl rfl hslo1 (by omega) (by omega) (by omega))) ?_; clear hF a hcl hB; intro a hF hcl hB
     refine dr_val hF hcl hB 43 rfl (.free rfl) rfl rfl (by kernel_rfl) rfl (fun w => (ex_field (b := cad vo1 (3 * ix)) rfl fd_60_0 rfl (by rw [cad_add hslo1 (by omega) (by omega)]; first | rfl | (congr 1; omega)))) ?_; clear hF a hcl hB; intro a hF hcl hB
     refine dr_effx hF hcl 44 rfl (.free rfl) rfl (by kernel_rfl) (st_own 3 rfl pl_3 hS rfl rfl rfl rfl (by omega) (by omega) (upd_dcells0 (i := ix) _ _ _ (by omega))) ?_; clear hS hB; rintro w hS hcl
     replace hS : Sat w0 w [.blk g1 [vD, .int .i64 s.w, .int .i64 s.h, .int .i64 s.kf], .blk g2 [.int .i64 x.a, .int .i64 x.p, .int .i64 x.b, .int .i64 x.q], .blk g3 [.int .u8 n0, .int .u8 n1, .int .u8 n2], .own vo1 3 60 d.n (dcells (upd d.W ix (min (max (d.W ix) s.w) ((d.W ix) + y2))) d.H (upd d.N ix (min 1000 ((d.N ix) + y1))))] := hS
     refine ⟨⟨(fun h => absurd h (by decide)), hS.sub (.cons_cons _ (.cons_cons _ (.cons_cons _ (.cons _ .slnil))))⟩, fun hB => ?_⟩
     refine dr_val hF hcl hB 45 rfl (.free rfl) rfl rfl (by kernel_rfl) rfl (fun w => (ex_index (k := 3 * ix) rfl sl_38 rfl rfl hslo1 (by omega) (by omega) (by omega))) ?_; clear hF a hcl hB; intro a hF hcl hB
     refine dr_val hF hcl hB 46 rfl (.free rfl) rfl rfl (by kernel_rfl) rfl (fun w => (ex_field (b := cad vo1 (3 * ix + 1)) rfl fd_60_1 rfl (by rw [cad_add hslo1 (by omega) (by omega)]; first | rfl | (congr 1; omega)))) ?_; clear hF a hcl hB; intro a hF hcl hB
     refine dr_effx hF hcl 47 rfl (.free rfl) rfl (by kernel_rfl) (st_own 3 rfl pl_3 hS rfl rfl rfl rfl (by omega) (by omega) (upd_dcells1 (i := ix) _ _ _ (by omega))) ?_; clear hS hB; rintro w hS hcl
     replace hS : Sat w0 w [.blk g1 [vD, .int .i64 s.w, .int .i64 s.h, .int .i64 s.kf], .blk g2 [.int .i64 x.a, .int .i64 x.p, .int .i64 x.b, .int .i64 x.q], .blk g3 [.int .u8 n0, .int .u8 n1, .int .u8 n2], .own vo1 3 60 d.n (dcells (upd d.W ix (min (max (d.W ix) s.w) ((d.W ix) + y2))) (upd d.H ix (min (max (d.H ix) s.h) ((d.H ix) + y3))) (upd d.N ix (min 1000 ((d.N ix) + y1))))] := hS
     refine ⟨⟨(fun h => absurd h (by decide)), hS.sub (.cons_cons _ (.cons_cons _ (.cons_cons _ (.cons _ .slnil))))⟩, fun hB => ?_⟩
     refine dr_done (by kernel_rfl) ?_; clear hcl hB
     refine then_normal ?_
     refine cw_seq ?_
     refine dr_sat (m0 := [.blk g1 [vD, .int .i64 s.w, .int .i64 s.h, .int .i64 s.kf], .blk g2 [.int .i64 x.a, .int .i64 x.p, .int .i64 x.b, .int .i64 x.q], .blk g3 [.int .u8 n0, .int .u8 n1, .int .u8 n2], .own vo1 3 60 d.n (dcells (upd d.W ix (min (max (d.W ix) s.w) ((d.W ix) + y2))) (upd d.H ix (min (max (d.H ix) s.h) ((d.H ix) + y3))) (upd d.N ix (min 1000 ((d.N ix) + y1))))]) (m1 := [.blk g1 [vD, .int .i64 s.w, .int .i64 s.h, .int .i64 s.kf], .blk g2 [.int .i64 x.a, .int .i64 x.p, .int .i64 x.b, .int .i64 x.q], .blk g3 [.int .u8 n0, .int .u8 n1, .int .u8 n2], .own vo1 3 60 d.n (dcells (upd d.W ix (min (max (d.W ix) s.w) ((d.W ix) + y2))) (upd d.H ix (min (max (d.H ix) s.h) ((d.H ix) + y3))) (upd d.N ix (min 1000 ((d.N ix) + y1))))]) 1000 mx_ hS (.cons_cons _ (.cons_cons _ (.cons_cons _ (.cons_cons _ .slnil)))) (.cons_cons _ (.cons_cons _ (.cons_cons _ (.cons_cons _ .slnil)))) rfl ?_; clear hS; intro w hS hcl hB
     refine dr_loadA hF hcl hB 0 rfl (.free rfl) rfl rfl (by kernel_rfl) rfl (fun w hS => (ex_loads_blk 1 rfl st_28 rfl hS rfl rfl)) ?_; clear hF a hcl hB; intro a hF hcl hB
     refine dr_val hF hcl hB 2 rfl (.free rfl) rfl rfl (by kernel_rfl) rfl (fun w => (ex_move rfl rfl)) ?_; clear hF a hcl hB; intro a hF hcl hB
     refine dr_val hF hcl hB 3 rfl (.free rfl) rfl rfl (by kernel_rfl) rfl (fun w => (ex_field (b := ⟨g1, 1, none⟩) rfl fd_24_1 rfl rfl)) ?_; clear hF a hcl hB; intro a hF hcl hB
     refine dr_loadA hF hcl hB 4 rfl (.free rfl) rfl rfl (by kernel_rfl) rfl (fun w hS => (ex_load_blk 0 rfl pl_3 rfl hS rfl rfl)) ?_; clear hF a hcl hB; intro a hF hcl hB
     refine dr_val hF hcl hB 5 rfl (.free rfl) rfl rfl (by kernel_rfl) rfl (fun w => (ex_field (b := ⟨g1, 2, none⟩) rfl fd_24_2 rfl rfl)) ?_; clear hF a hcl hB; intro a hF hcl hB
     refine dr_loadA hF hcl hB 6 rfl (.free rfl) rfl rfl (by kernel_rfl) rfl (fun w hS => (ex_load_blk 0 rfl pl_3 rfl hS rfl rfl)) ?_; clear hF a hcl hB; intro a hF hcl hB
     refine dr_val hF hcl hB 7 rfl (.free rfl) rfl rfl (by kernel_rfl) rfl (fun w => (ex_field (b := ⟨g1, 3, none⟩) rfl fd_24_3 rfl rfl)) ?_; clear hF a hcl hB; intro a hF hcl hB
     refine dr_loadA hF hcl hB 8 rfl (.free rfl) rfl rfl (by kernel_rfl) rfl (fun w hS => (ex_load_blk 0 rfl pl_3 rfl hS rfl rfl)) ?_; clear hF a hcl hB; intro a hF hcl hB
     refine dr_call hF hcl 1 rfl (.free rfl) rfl rfl (by kernel_rfl) (ex_call0 rfl rfl cl_13 (args_cons rfl args0)) (c_cert (x := x) w) ?_; clear hF hB; rintro _ w ⟨rfl, hS'⟩ a hF hcl
     replace hS : Sat w0 w [.blk g1 [vD, .int .i64 s.w, .int .i64 s.h, .int .i64 s.kf], .blk g2 [.int .i64 x.a, .int .i64 x.p, .int .i64 x.b, .int .i64 x.q], .blk g3 [.int .u8 n0, .int .u8 n1, .int .u8 n2], .own vo1 3 60 d.n (dcells (upd d.W ix (min (max (d.W ix) s.w) ((d.W ix) + y2))) (upd d.H ix (min (max (d.H ix) s.h) ((d.H ix) + y3))) (upd d.N ix (min 1000 ((d.N ix) + y1))))] := hS.comp hS'; clear hS'
     refine ⟨⟨(fun _ => hS.sub (.cons_cons _ (.cons_cons _ (.cons_cons _ (.cons_cons _ .slnil))))), hS.sub (.cons_cons _ (.cons_cons _ (.cons_cons _ (.cons_cons _ .slnil))))⟩, fun hB => ?_⟩
     refine dr_call hF hcl 9 rfl (.free rfl) rfl rfl (by kernel_rfl) (ex_call0 rfl rfl cl_12 (args_cons rfl (args_cons rfl (args_cons rfl (args_cons rfl (args_cons rfl args0)))))) (c_Value (x := x) (d := ⟨d.n, (upd d.W ix (min (max (d.W ix) s.w) ((d.W ix) + y2))), (upd d.H ix (min (max (d.H ix) s.h) ((d.H ix) + y3))), (upd d.N ix (min 1000 ((d.N ix) + y1)))⟩) (s := s) w (⟨(hS.rowN 3 rfl), (upd_bnd hD.bw (by omega)), (upd_bnd hD.bh (by omega)), (upd_bnd hD.bn (by omega))⟩ : DAt _ _ d.n (upd d.W ix (min (max (d.W ix) s.w) ((d.W ix) + y2))) (upd d.H ix (min (max (d.H ix) s.h) ((d.H ix) + y3))) (upd d.N ix (min 1000 ((d.N ix) + y1)))) hs hx) ?_; clear hF hB; rintro _ w ⟨az2, ez2, rfl, hrz2, hS'⟩ a hF hcl
     replace hS : Sat w0 w [.blk g1 [vD, .int .i64 s.w, .int .i64 s.h, .int .i64 s.kf], .blk g2 [.int .i64 x.a, .int .i64 x.p, .int .i64 x.b, .int .i64 x.q], .blk g3 [.int .u8 n0, .int .u8 n1, .int .u8 n2], .own vo1 3 60 d.n (dcells (upd d.W ix (min (max (d.W ix) s.w) ((d.W ix) + y2))) (upd d.H ix (min (max (d.H ix) s.h) ((d.H ix) + y3))) (upd d.N ix (min 1000 ((d.N ix) + y1))))] := hS.comp hS'; clear hS'
     refine ⟨⟨(fun _ => hS.sub (.cons_cons _ (.cons_cons _ (.cons_cons _ (.cons_cons _ .slnil))))), hS.sub (.cons_cons _ (.cons_cons _ (.cons_cons _ (.cons_cons _ .slnil))))⟩, fun hB => ?_⟩
     refine dr_val hF hcl hB 10 rfl (.free rfl) rfl rfl (by kernel_rfl) rfl (fun w => (ex_move rfl rfl)) ?_; clear hF a hcl hB; intro a hF hcl hB
     refine dr_val hF hcl hB 11 rfl (.free rfl) rfl rfl (by kernel_rfl) rfl (fun w => (ex_extract rfl rfl rfl)) ?_; clear hF a hcl hB; intro a hF hcl hB
     refine dr_val hF hcl hB 12 rfl (.free rfl) rfl rfl (by kernel_rfl) rfl (fun w => (ex_extract rfl rfl rfl)) ?_; clear hF a hcl hB; intro a hF hcl hB
     refine dr_val hF hcl hB 13 rfl (.free rfl) rfl rfl (by kernel_rfl) rfl (fun w => (ex_assign rfl rfl)) ?_; clear hF a hcl hB; intro a hF hcl hB
     refine dr_val hF hcl hB 14 rfl (.free rfl) rfl rfl (by kernel_rfl) rfl (fun w => (ex_assign rfl rfl)) ?_; clear hF a hcl hB; intro a hF hcl hB
     refine dr_done (by kernel_rfl) ?_; clear hcl hB
     refine then_normal ?_
     refine cw_seq ?_
     refine wp_region_lit ?_
     refine ls_val hF (.free rfl) rfl rfl (ex_move rfl rfl) ?_; clear hF a; intro a hF
     refine ls_val hF (.free rfl) rfl rfl (ex_neq rfl rfl rfl) ?_; clear hF a; intro a hF
     refine ls_val hF (.free rfl) rfl rfl (ex_move rfl rfl) ?_; clear hF a; intro a hF
     refine by_slot hF (d := 127) rfl ?_ ?_ <;> clear hF <;> intro hc hF
     ·
      refine ls_off hF (.on rfl rfl rfl rfl rfl) rfl rfl ?_; clear hF a; intro a hF
      refine ls_off hF (.on rfl rfl rfl rfl rfl) rfl rfl ?_; clear hF a; intro a hF
      refine ls_off hF (.on rfl rfl rfl rfl rfl) rfl rfl ?_; clear hF a; intro a hF
      refine ls_val hF (.free rfl) rfl rfl (ex_pick_t rfl rfl rfl) ?_; clear hF a; intro a hF
      refine ls_val hF (.free rfl) rfl rfl (ex_assign rfl rfl) ?_; clear hF a; intro a hF
      refine ls_nil ?_
      refine then_normal ?_
      refine wp_ret ?_
      refine (fin1 hF rfl rfl ⟨_, rfl, ?_⟩)
      exact ⟨rfl, hS.sub (.cons _ (.cons _ (.cons _ (.cons _ .slnil))))⟩
     ·
      refine ls_val hF (.on rfl rfl rfl rfl rfl) rfl rfl (ex_move rfl rfl) ?_; clear hF a; intro a hF
      refine ls_val hF (.on rfl rfl rfl rfl rfl) rfl rfl (ex_move rfl rfl) ?_; clear hF a; intro a hF
      refine ls_val hF (.on rfl rfl rfl rfl rfl) rfl rfl (ex_geq rfl rfl rfl) ?_; clear hF a; intro a hF
      refine ls_val hF (.free rfl) rfl rfl (ex_pick_f rfl rfl rfl) ?_; clear hF a; intro a hF
      refine ls_val hF (.free rfl) rfl rfl (ex_assign rfl rfl) ?_; clear hF a; intro a hF
      refine ls_nil ?_
      refine then_normal ?_
      refine wp_ret ?_
      refine (fin1 hF rfl rfl ⟨_, rfl, ?_⟩)
      obtain ⟨hk2, hok2, hng2, hv2⟩ := hrz2.ok (by omega)
      have hmo := val_more hk hk2 hok hn hng hng2 (more_of (by omega) (by omega) (by omega))
      exact ⟨(true_B (by omega)).symm, hS.sub (.cons _ (.cons _ (.cons _ (.cons _ .slnil))))⟩

set_option maxRecDepth 20000 in
theorem law_dual {kind k c n : Int} {vs : Value} {f : Int → Int} (w0 : World) (hc : 0 ≤ c ∧ c ≤ 65535) (hR : Row w0 vs 1 n (fun j => .int .u16 (f j))) (hbf : ∀ j, 0 ≤ f j ∧ f j ≤ 65535) :
    Calls Try.prog 9 [.agg #[.int .i64 kind, .int .i64 k], vs, .int .u16 c].toArray w0 fun e w => ∃ v, e = .returned v ∧ v = .bool true ∧ Sat w0 w [] := by
  have hn := hR.slh.n0; have hn1 := hR.slh.n1
  refine enterS (vs := [.agg #[.int .i64 kind, .int .i64 k], vs, .int .u16 c]) Try.func9 rfl Try.ntmps9 rfl ?_
  intro a w hS hF
  refine cw_seq ?_
  refine wp_region_lit ?_
  refine ls_any hF (.free rfl) rfl rfl (ex_box (cs := [.int .i64 kind, .int .i64 k]) rfl hS rfl rfl) ?_; clear hF; rintro _ w ⟨g1, rfl, hS⟩ a hF
  replace hS : Sat w0 w [.blk g1 [.int .i64 kind, .int .i64 k]] := hS
  refine ls_val hF (.free rfl) rfl rfl (ex_assign rfl rfl) ?_; clear hF a; intro a hF
  refine ls_nil ?_
  refine then_normal ?_
  refine cw_seq ?_
  refine cw_seq ?_
  refine wp_region_lit ?_
  refine ls_call hF (.free rfl) rfl rfl (ex_call0 rfl rfl cl_10 args0) (c_awake w) ?_; clear hF; rintro _ w ⟨rfl, hS'⟩ a hF
  replace hS : Sat w0 w [.blk g1 [.int .i64 kind, .int .i64 k]] := hS.comp hS'; clear hS'
  refine ls_val hF (.free rfl) rfl rfl (ex_not_t rfl rfl) ?_; clear hF a; intro a hF
  refine ls_nil ?_
  refine then_normal ?_
  refine cw_f hF rfl ?_
  refine wp_skip ?_
  refine then_normal ?_
  refine cw_seq ?_
  refine cw_seq ?_
  refine wp_region_lit ?_
  refine ls_val hF (.free rfl) rfl rfl (ex_move rfl rfl) ?_; clear hF a; intro a hF
  refine ls_val hF (.free rfl) rfl rfl (ex_lss rfl rfl rfl) ?_; clear hF a; intro a hF
  refine ls_val hF (.free rfl) rfl rfl (ex_move rfl rfl) ?_; clear hF a; intro a hF
  refine by_slot hF (d := 19) rfl ?_ ?_ <;> clear hF <;> intro hc hF
  ·
   refine ls_off hF (.on rfl rfl rfl rfl rfl) rfl rfl ?_; clear hF a; intro a hF
   refine ls_off hF (.on rfl rfl rfl rfl rfl) rfl rfl ?_; clear hF a; intro a hF
   refine ls_val hF (.free rfl) rfl rfl (ex_pick_t rfl rfl rfl) ?_; clear hF a; intro a hF
   refine ls_val hF (.free rfl) rfl rfl (ex_move rfl rfl) ?_; clear hF a; intro a hF
   refine ls_off hF (.on rfl rfl rfl rfl rfl) rfl rfl ?_; clear hF a; intro a hF
   refine ls_off hF (.on rfl rfl rfl rfl rfl) rfl rfl ?_; clear hF a; intro a hF
   refine ls_off hF (.on rfl rfl rfl rfl rfl) rfl rfl ?_; clear hF a; intro a hF
   refine ls_val hF (.free rfl) rfl rfl (ex_pick_t rfl rfl rfl) ?_; clear hF a; intro a hF
   refine ls_nil ?_
   refine then_normal ?_
   refine cw_t hF rfl ?_
   refine cw_seq ?_
   refine wp_region_lit ?_
   refine ls_val hF (.free rfl) rfl rfl (ex_assign rfl rfl) ?_; clear hF a; intro a hF
   refine ls_nil ?_
   refine then_normal ?_
   refine wp_ret ?_
   refine then_ret ((fin1 hF rfl rfl ⟨_, rfl, ?_⟩))
   exact ⟨rfl, hS.sub (.cons _ .slnil)⟩
  ·
   refine ls_val hF (.on rfl rfl rfl rfl rfl) rfl rfl (ex_move rfl rfl) ?_; clear hF a; intro a hF
   refine ls_val hF (.on rfl rfl rfl rfl rfl) rfl rfl (ex_gtr rfl rfl rfl) ?_; clear hF a; intro a hF
   refine ls_val hF (.free rfl) rfl rfl (ex_pick_f rfl rfl rfl) ?_; clear hF a; intro a hF
   refine ls_val hF (.free rfl) rfl rfl (ex_move rfl rfl) ?_; clear hF a; intro a hF
   refine by_slot hF (d := 23) rfl ?_ ?_ <;> clear hF <;> intro hc hF
   ·
    refine ls_off hF (.on rfl rfl rfl rfl rfl) rfl rfl ?_; clear hF a; intro a hF
    refine ls_off hF (.on rfl rfl rfl rfl rfl) rfl rfl ?_; clear hF a; intro a hF
    refine ls_off hF (.on rfl rfl rfl rfl rfl) rfl rfl ?_; clear hF a; intro a hF
    refine ls_val hF (.free rfl) rfl rfl (ex_pick_t rfl rfl rfl) ?_; clear hF a; intro a hF
    refine ls_nil ?_
    refine then_normal ?_
    refine cw_t hF rfl ?_
    refine cw_seq ?_
    refine wp_region_lit ?_
    refine ls_val hF (.free rfl) rfl rfl (ex_assign rfl rfl) ?_; clear hF a; intro a hF
    refine ls_nil ?_
    refine then_normal ?_
    refine wp_ret ?_
    refine then_ret ((fin1 hF rfl rfl ⟨_, rfl, ?_⟩))
    exact ⟨rfl, hS.sub (.cons _ .slnil)⟩
   ·
    refine ls_val hF (.on rfl rfl rfl rfl rfl) rfl rfl (ex_move rfl rfl) ?_; clear hF a; intro a hF
    refine ls_val hF (.on rfl rfl rfl rfl rfl) rfl rfl (ex_len rfl sl_68 rfl hR.slh) ?_; clear hF a; intro a hF
    refine ls_val hF (.on rfl rfl rfl rfl rfl) rfl rfl (ex_gtr rfl rfl rfl) ?_; clear hF a; intro a hF
    refine ls_val hF (.free rfl) rfl rfl (ex_pick_f rfl rfl rfl) ?_; clear hF a; intro a hF
    refine ls_nil ?_
    refine then_normal ?_
    refine cw_if hF rfl (fun hc => ?_) (fun hc => ?_)
    ·
     refine cw_seq ?_
     refine wp_region_lit ?_
     refine ls_val hF (.free rfl) rfl rfl (ex_assign rfl rfl) ?_; clear hF a; intro a hF
     refine ls_nil ?_
     refine then_normal ?_
     refine wp_ret ?_
     refine then_ret ((fin1 hF rfl rfl ⟨_, rfl, ?_⟩))
     exact ⟨rfl, hS.sub (.cons _ .slnil)⟩
    ·
     refine wp_skip ?_
     refine then_normal ?_
     refine cw_seq ?_
     refine wp_region_lit ?_
     refine ls_val hF (.free rfl) rfl rfl (ex_loads_blk 0 rfl st_26 rfl hS rfl rfl) ?_; clear hF a; intro a hF
     refine ls_val hF (.free rfl) rfl rfl (ex_move rfl rfl) ?_; clear hF a; intro a hF
     refine ls_val hF (.free rfl) rfl rfl (ex_conv rfl so_69 it_3 rfl (by unfold InK; omega)) ?_; clear hF a; intro a hF
     refine ls_val hF (.free rfl) rfl rfl (ex_move rfl rfl) ?_; clear hF a; intro a hF
     refine ls_val hF (.free rfl) rfl rfl (ex_conv rfl so_69 it_3 rfl (by unfold InK; omega)) ?_; clear hF a; intro a hF
     refine ls_call hF (.free rfl) rfl rfl (ex_call0 rfl rfl cl_21 (args_cons rfl (args_cons rfl (args_cons rfl args0)))) (c_apply (kind := kind) (k := k) (x := c) (c := c) w (by omega) (by omega)) ?_; clear hF; rintro _ w ⟨ap1, ep1, rfl, hrp1, hS'⟩ a hF
     replace hS : Sat w0 w [.blk g1 [.int .i64 kind, .int .i64 k]] := hS.comp hS'; clear hS'
     refine ls_val hF (.free rfl) rfl rfl (ex_move rfl rfl) ?_; clear hF a; intro a hF
     refine ls_val hF (.free rfl) rfl rfl (ex_extract rfl rfl rfl) ?_; clear hF a; intro a hF
     refine ls_val hF (.free rfl) rfl rfl (ex_extract rfl rfl rfl) ?_; clear hF a; intro a hF
     refine ls_val hF (.free rfl) rfl rfl (ex_assign rfl rfl) ?_; clear hF a; intro a hF
     refine ls_val hF (.free rfl) rfl rfl (ex_assign rfl rfl) ?_; clear hF a; intro a hF
     refine ls_nil ?_
     refine then_normal ?_
     refine cw_seq ?_
     refine cw_seq ?_
     refine wp_region_lit ?_
     refine ls_val hF (.free rfl) rfl rfl (ex_move rfl rfl) ?_; clear hF a; intro a hF
     refine ls_val hF (.free rfl) rfl rfl (ex_neq rfl rfl rfl) ?_; clear hF a; intro a hF
     refine ls_nil ?_
     refine then_normal ?_
     refine cw_if hF rfl (fun hc => ?_) (fun hc => ?_)
     ·
      refine cw_seq ?_
      refine wp_region_lit ?_
      refine ls_val hF (.free rfl) rfl rfl (ex_move rfl rfl) ?_; clear hF a; intro a hF
      have hz := hrp1.err (by omega)
      refine ls_val hF (.free rfl) rfl rfl (known_t (ex_eql rfl rfl rfl) (by omega)) ?_; clear hF a; intro a hF
      refine ls_val hF (.free rfl) rfl rfl (ex_assign rfl rfl) ?_; clear hF a; intro a hF
      refine ls_nil ?_
      refine then_normal ?_
      refine wp_ret ?_
      refine then_ret ((fin1 hF rfl rfl ⟨_, rfl, ?_⟩))
      exact ⟨rfl, hS.sub (.cons _ .slnil)⟩
     ·
      refine wp_skip ?_
      refine then_normal ?_
      refine cw_seq ?_
      refine wp_region_lit ?_
      refine ls_val hF (.free rfl) rfl rfl (ex_assign rfl rfl) ?_; clear hF a; intro a hF
      refine ls_val hF (.free rfl) rfl rfl (ex_assign rfl rfl) ?_; clear hF a; intro a hF
      refine ls_nil ?_
      refine then_normal ?_
      refine cw_seq ?_
      refine cw_seq ?_
      refine wp_region_lit ?_
      refine ls_val hF (.free rfl) rfl rfl (ex_move rfl rfl) ?_; clear hF a; intro a hF
      obtain ⟨hokf, hv1⟩ := hrp1.ok (by omega)
      refine ls_val hF (.free rfl) rfl rfl (ex_len rfl sl_68 rfl hR.slh) ?_; clear hF a; intro a hF
      refine ls_val hF (.free rfl) rfl rfl (ex_move rfl rfl) ?_; clear hF a; intro a hF
      refine ls_nil ?_
      refine then_normal ?_
      refine wp_block ?_
      refine cw_loop (fun mm a w => ∃ (t : Int) (u : Int) (i : Int), mm = ((n - i).toNat) ∧ (0 ≤ i) ∧ (i ≤ n) ∧ (0 ≤ t ∧ t ≤ c) ∧ (0 ≤ u) ∧ (u ≤ dfv kind k t c) ∧ Fr a 84 [(2, .int .u16 c), (3, .pointer (some ⟨g1, 0, none⟩)), (7, .int .i64 ap1), (9, .int .i64 t), (10, .int .i64 u), (41, vs), (42, .int .i64 n), (43, .int .i64 i)] ∧ Sat w0 w [.blk g1 [.int .i64 kind, .int .i64 k]]) ?_ ?_ (m := ((n - 0).toNat))
      ·
       refine ⟨0, 0, 0, rfl, (by omega), (by omega), (by omega), (by omega), ?_, (hF.pick (hF.pick (hF.pick (hF.pick (hF.pick (hF.pick (hF.pick (hF.pick hF.nil 43 rfl) 42 rfl) 41 rfl) 10 rfl) 9 rfl) 7 rfl) 3 rfl) 2 rfl), hS⟩
       ·
        rw [dfv_zero hokf (by omega)]; omega
      ·
       clear hF hS a w
       rintro mm a w ⟨t, u, i, rfl, h0, h1, ht0, hu0, hu1, hF, hS⟩
       refine cw_seq ?_
       refine wp_region_lit ?_
       refine ls_val hF (.free rfl) rfl rfl (ex_lss rfl rfl rfl) ?_; clear hF a; intro a hF
       refine ls_nil ?_
       refine then_normal ?_
       refine cw_seq ?_
       refine cw_if hF rfl (fun hc => ?_) (fun hc => ?_)
       ·
        refine wp_skip ?_
        refine then_normal ?_
        refine cw_seq ?_
        refine wp_block ?_
        refine cw_seq ?_
        refine wp_region_lit ?_
        refine ls_val hF (.free rfl) rfl rfl (ex_index (k := i) rfl sl_68 rfl rfl hR.slh (by omega) (by omega) (by omega)) ?_; clear hF a; intro a hF
        refine ls_val hF (.free rfl) rfl rfl (ex_load_row (u := .int .u16 (f i)) rfl pl_69 rfl (hR.below hS.below) (by omega) (by omega) rfl) ?_; clear hF a; intro a hF
        have hbv := hbf i
        refine ls_val hF (.free rfl) rfl rfl (ex_assign rfl rfl) ?_; clear hF a; intro a hF
        refine ls_nil ?_
        refine then_normal ?_
        refine cw_seq ?_
        refine cw_seq ?_
        refine wp_region_lit ?_
        refine ls_val hF (.free rfl) rfl rfl (ex_move rfl rfl) ?_; clear hF a; intro a hF
        refine ls_val hF (.free rfl) rfl rfl (ex_move rfl rfl) ?_; clear hF a; intro a hF
        refine ls_val hF (.free rfl) rfl rfl (ex_conv rfl so_69 it_3 rfl (by unfold InK; omega)) ?_; clear hF a; intro a hF
        refine ls_val hF (.free rfl) rfl rfl (ex_add (r := t + (f i)) rfl rfl rfl (by omega) (by unfold I64; omega)) ?_; clear hF a; intro a hF
        refine ls_val hF (.free rfl) rfl rfl (ex_move rfl rfl) ?_; clear hF a; intro a hF
        refine ls_val hF (.free rfl) rfl rfl (ex_conv rfl so_69 it_3 rfl (by unfold InK; omega)) ?_; clear hF a; intro a hF
        refine ls_val hF (.free rfl) rfl rfl (ex_gtr rfl rfl rfl) ?_; clear hF a; intro a hF
        refine ls_nil ?_
        refine then_normal ?_
        refine cw_if hF rfl (fun hc => ?_) (fun hc => ?_)
        ·
         refine wp_exit ?_
         refine then_exit ?_
         refine inb_hit ?_
         refine then_normal ?_
         refine wp_region_lit ?_
         refine ls_val hF (.free rfl) rfl rfl (ex_add (r := i + 1) rfl rfl rfl (by omega) (by unfold I64; omega)) ?_; clear hF a; intro a hF
         refine ls_val hF (.free rfl) rfl rfl (ex_move rfl rfl) ?_; clear hF a; intro a hF
         refine ls_nil ?_
         refine then_normal ?_
         refine ⟨_, (by omega), t, u, i + 1, rfl, (by omega), (by omega), (by omega), (by omega), ?_, (hF.pick (hF.pick (hF.pick (hF.pick (hF.pick (hF.pick (hF.pick (hF.pick hF.nil 43 rfl) 42 rfl) 41 rfl) 10 rfl) 9 rfl) 7 rfl) 3 rfl) 2 rfl), hS⟩
         ·
          omega
        ·
         refine wp_skip ?_
         refine then_normal ?_
         refine cw_seq ?_
         refine wp_region_lit ?_
         refine ls_val hF (.free rfl) rfl rfl (ex_loads_blk 0 rfl st_26 rfl hS rfl rfl) ?_; clear hF a; intro a hF
         refine ls_val hF (.free rfl) rfl rfl (ex_move rfl rfl) ?_; clear hF a; intro a hF
         refine ls_val hF (.free rfl) rfl rfl (ex_conv rfl so_69 it_3 rfl (by unfold InK; omega)) ?_; clear hF a; intro a hF
         refine ls_val hF (.free rfl) rfl rfl (ex_move rfl rfl) ?_; clear hF a; intro a hF
         refine ls_val hF (.free rfl) rfl rfl (ex_conv rfl so_69 it_3 rfl (by unfold InK; omega)) ?_; clear hF a; intro a hF
         refine ls_call hF (.free rfl) rfl rfl (ex_call0 rfl rfl cl_21 (args_cons rfl (args_cons rfl (args_cons rfl args0)))) (c_apply (kind := kind) (k := k) (x := (f i)) (c := c) w (by omega) (by omega)) ?_; clear hF; rintro _ w ⟨ap2, ep2, rfl, hrp2, hS'⟩ a hF
         replace hS : Sat w0 w [.blk g1 [.int .i64 kind, .int .i64 k]] := hS.comp hS'; clear hS'
         have hi2 := hrp2.is (by omega) (by omega) hokf (by omega) (by omega)
         have hd2 := dfv_bd hokf (x := f i) (by omega) (by omega) (by omega) (by omega)
         have hsu := dfv_sup hokf (x := t) (y := f i) (by omega) (by omega) (by omega) (by omega)
         have hi21 := hi2.1; have hi22 := hi2.2
         have hd3 := dfv_bd hokf (x := t) (by omega) (by omega) (by omega) (by omega)
         have hap : 0 ≤ ap2 := by omega
         refine ls_val hF (.free rfl) rfl rfl (ex_move rfl rfl) ?_; clear hF a; intro a hF
         refine ls_val hF (.free rfl) rfl rfl (ex_extract rfl rfl rfl) ?_; clear hF a; intro a hF
         refine ls_val hF (.free rfl) rfl rfl (ex_extract rfl rfl rfl) ?_; clear hF a; intro a hF
         refine ls_val hF (.free rfl) rfl rfl (ex_assign rfl rfl) ?_; clear hF a; intro a hF
         refine ls_val hF (.free rfl) rfl rfl (ex_assign rfl rfl) ?_; clear hF a; intro a hF
         refine ls_nil ?_
         refine then_normal ?_
         refine cw_seq ?_
         refine cw_seq ?_
         refine wp_region_lit ?_
         refine ls_val hF (.free rfl) rfl rfl (ex_move rfl rfl) ?_; clear hF a; intro a hF
         refine ls_val hF (.free rfl) rfl rfl (known_f (ex_neq rfl rfl rfl) (by omega)) ?_; clear hF a; intro a hF
         refine ls_val hF (.free rfl) rfl rfl (ex_move rfl rfl) ?_; clear hF a; intro a hF
         refine ls_val hF (.on rfl rfl rfl rfl rfl) rfl rfl (ex_move rfl rfl) ?_; clear hF a; intro a hF
         refine ls_val hF (.on rfl rfl rfl rfl rfl) rfl rfl (known_f (ex_lss rfl rfl rfl) (by omega)) ?_; clear hF a; intro a hF
         refine ls_val hF (.free rfl) rfl rfl (ex_pick_f rfl rfl rfl) ?_; clear hF a; intro a hF
         refine ls_nil ?_
         refine then_normal ?_
         refine cw_f hF rfl ?_
         refine wp_skip ?_
         refine then_normal ?_
         refine wp_region_lit ?_
         refine ls_val hF (.free rfl) rfl rfl (ex_move rfl rfl) ?_; clear hF a; intro a hF
         refine ls_val hF (.free rfl) rfl rfl (ex_move rfl rfl) ?_; clear hF a; intro a hF
         refine ls_val hF (.free rfl) rfl rfl (ex_conv rfl so_69 it_3 rfl (by unfold InK; omega)) ?_; clear hF a; intro a hF
         refine ls_val hF (.free rfl) rfl rfl (ex_add (r := t + (f i)) rfl rfl rfl (by omega) (by unfold I64; omega)) ?_; clear hF a; intro a hF
         refine ls_val hF (.free rfl) rfl rfl (ex_move rfl rfl) ?_; clear hF a; intro a hF
         refine ls_val hF (.free rfl) rfl rfl (ex_move rfl rfl) ?_; clear hF a; intro a hF
         refine ls_val hF (.free rfl) rfl rfl (ex_add (r := u + ap2) rfl rfl rfl (by omega) (by unfold I64; omega)) ?_; clear hF a; intro a hF
         refine ls_val hF (.free rfl) rfl rfl (ex_assign rfl rfl) ?_; clear hF a; intro a hF
         refine ls_val hF (.free rfl) rfl rfl (ex_assign rfl rfl) ?_; clear hF a; intro a hF
         refine ls_nil ?_
         refine inb_normal ?_
         refine then_normal ?_
         refine wp_region_lit ?_
         refine ls_val hF (.free rfl) rfl rfl (ex_add (r := i + 1) rfl rfl rfl (by omega) (by unfold I64; omega)) ?_; clear hF a; intro a hF
         refine ls_val hF (.free rfl) rfl rfl (ex_move rfl rfl) ?_; clear hF a; intro a hF
         refine ls_nil ?_
         refine then_normal ?_
         refine ⟨_, (by omega), t + (f i), u + ap2, i + 1, rfl, (by omega), (by omega), (by omega), (by omega), ?_, (hF.pick (hF.pick (hF.pick (hF.pick (hF.pick (hF.pick (hF.pick (hF.pick hF.nil 43 rfl) 42 rfl) 41 rfl) 10 rfl) 9 rfl) 7 rfl) 3 rfl) 2 rfl), hS⟩
         ·
          omega
       ·
        refine wp_exit ?_
        refine then_exit ?_
        refine then_exit ?_
        refine inb_hit ?_
        refine then_normal ?_
        refine cw_seq ?_
        refine wp_region_lit ?_
        refine ls_val hF (.free rfl) rfl rfl (ex_move rfl rfl) ?_; clear hF a; intro a hF
        refine ls_val hF (.free rfl) rfl rfl (ex_gtr rfl rfl rfl) ?_; clear hF a; intro a hF
        refine ls_val hF (.free rfl) rfl rfl (ex_move rfl rfl) ?_; clear hF a; intro a hF
        refine by_slot hF (d := 79) rfl ?_ ?_ <;> clear hF <;> intro hc hF
        ·
         refine ls_val hF (.on rfl rfl rfl rfl rfl) rfl rfl (ex_move rfl rfl) ?_; clear hF a; intro a hF
         refine ls_val hF (.on rfl rfl rfl rfl rfl) rfl rfl (ex_move rfl rfl) ?_; clear hF a; intro a hF
         refine ls_val hF (.on rfl rfl rfl rfl rfl) rfl rfl (ex_leq rfl rfl rfl) ?_; clear hF a; intro a hF
         refine ls_val hF (.free rfl) rfl rfl (ex_pick_t rfl rfl rfl) ?_; clear hF a; intro a hF
         refine ls_val hF (.free rfl) rfl rfl (ex_assign rfl rfl) ?_; clear hF a; intro a hF
         refine ls_nil ?_
         refine then_normal ?_
         refine wp_ret ?_
         refine (fin1 hF rfl rfl ⟨_, rfl, ?_⟩)
         have hmo := dfv_mono hokf (x := t) (y := c) (by omega) (by omega) (Int.le_refl _) (by omega)
         exact ⟨(true_B (by omega)).symm, hS.sub (.cons _ .slnil)⟩
        ·
         refine ls_off hF (.on rfl rfl rfl rfl rfl) rfl rfl ?_; clear hF a; intro a hF
         refine ls_off hF (.on rfl rfl rfl rfl rfl) rfl rfl ?_; clear hF a; intro a hF
         refine ls_off hF (.on rfl rfl rfl rfl rfl) rfl rfl ?_; clear hF a; intro a hF
         refine ls_val hF (.free rfl) rfl rfl (ex_pick_f rfl rfl rfl) ?_; clear hF a; intro a hF
         refine ls_val hF (.free rfl) rfl rfl (ex_assign rfl rfl) ?_; clear hF a; intro a hF
         refine ls_nil ?_
         refine then_normal ?_
         refine wp_ret ?_
         refine (fin1 hF rfl rfl ⟨_, rfl, ?_⟩)
         exfalso; have hmo := dfv_mono hokf (x := t) (y := c) (by omega) (by omega) (Int.le_refl _) (by omega); have htp := dfv_top hokf (by omega); omega

end Go.Proofs.Ytmlfpniaknmmfaa
