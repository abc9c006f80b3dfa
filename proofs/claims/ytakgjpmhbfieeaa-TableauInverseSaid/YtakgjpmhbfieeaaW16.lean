/- The walk of TableauOptimal. -/
import Derived.Test.YtakgjpmhbfieeaaW15
namespace Go.Proofs.Ytakgjpmhbfieeaa
open Go Go.RowKit Go.Proofs.Gw
set_option linter.unusedVariables false

theorem cl_17 : calledT Try.prog 17 = true := by kernel_rfl
theorem cl_19 : calledT Try.prog 19 = true := by kernel_rfl
theorem pl_5 : plainT Try.prog 5 = true := by kernel_rfl
theorem sl_26 : sliceT Try.prog 26 = some (5, 1) := by kernel_rfl
theorem c_permittedB {vc vA vb : Value} {vq : Int → Value} {p : Lp} {vx : Value} {x : Int → Int} (w0 : World) (hL : LAt w0 vc vA vb vq p) (hl : LOk p) (hx : Row w0 vx 1 p.n (ints x)) (hxb : ∀ k, 0 ≤ k → k < p.n → -1073741824 ≤ x k ∧ x k ≤ 1073741824) : Calls Try.prog 19 [.agg #[vc, vA, vb], vx].toArray w0 fun e w => ∃ v, e = .returned v ∧ ∃ (c : Int) (ok : Bool), v = .tuple #[.int .i64 c, B (ok = true)] ∧ PermR p x c ok ∧ Sat w0 w [] :=
  (c_permitted w0 hL hl hx hxb).mono fun e w h => by
    obtain ⟨v, he, c, ok, hv, hn, hS⟩ := h
    exact ⟨v, he, c, ok, by rw [hv, bool_B], hn, hS⟩

set_option maxRecDepth 20000 in
theorem law_optimal {vc vA vb : Value} {vq : Int → Value} {p : Lp} {vu : Value} {mu : Int} {fu : Int → Int} (w0 : World) (hL : LAt w0 vc vA vb vq p) (hU : Row w0 vu 1 mu (fun k => .int .u8 (fu k))) (hub : ∀ k, 0 ≤ fu k ∧ fu k ≤ 255) :
    Calls Try.prog 3 [.agg #[vc, vA, vb], vu].toArray w0 fun e w => ∃ v, e = .returned v ∧ v = .bool true ∧ Sat w0 w [] := by
  have hn := hL.c.slh.n0; have hn1 := hL.c.slh.n1; have hm := hL.A.row.slh.n0; have hm1 := hL.A.row.slh.n1; have hk := hL.b.slh.n0; have hk1 := hL.b.slh.n1
  have hmu := hU.slh.n0; have hmu1 := hU.slh.n1
  refine enterS (vs := [.agg #[vc, vA, vb], vu]) Try.func3 rfl Try.ntmps3 rfl ?_
  intro a w hS hF
  refine cw_seq ?_
  refine wp_region_lit ?_
  refine ls_any hF (.free rfl) rfl rfl (ex_box (cs := [vc, vA, vb]) rfl hS rfl rfl) ?_; clear hF; rintro _ w ⟨g1, rfl, hS⟩ a hF
  replace hS : Sat w0 w [.blk g1 [vc, vA, vb]] := hS
  refine ls_val hF (.free rfl) rfl rfl (ex_assign rfl rfl) ?_; clear hF a; intro a hF
  refine ls_nil ?_
  refine then_normal ?_
  refine cw_seq ?_
  refine cw_seq ?_
  refine wp_region_lit ?_
  refine ls_call hF (.free rfl) rfl rfl (ex_call0 rfl rfl cl_12 args0) (c_awake w) ?_; clear hF; rintro _ w ⟨rfl, hS'⟩ a hF
  replace hS : Sat w0 w [.blk g1 [vc, vA, vb]] := hS.comp hS'; clear hS'
  refine ls_val hF (.free rfl) rfl rfl (ex_not_t rfl rfl) ?_; clear hF a; intro a hF
  refine ls_val hF (.free rfl) rfl rfl (ex_move rfl rfl) ?_; clear hF a; intro a hF
  refine ls_val hF (.on rfl rfl rfl rfl rfl) rfl rfl (ex_loads_blk 0 rfl st_25 rfl hS rfl rfl) ?_; clear hF a; intro a hF
  refine ls_call hF (.on rfl rfl rfl rfl rfl) rfl rfl (ex_call0 rfl rfl cl_13 (args_cons rfl args0)) (c_few (p := p) w (hL.below hS.below)) ?_; clear hF; rintro _ w ⟨rfl, hS'⟩ a hF
  replace hS : Sat w0 w [.blk g1 [vc, vA, vb]] := hS.comp hS'; clear hS'
  refine ls_val hF (.on rfl rfl rfl rfl rfl) rfl rfl (ex_not rfl rfl) ?_; clear hF a; intro a hF
  refine ls_val hF (.free rfl) rfl rfl (ex_pick_f rfl rfl rfl) ?_; clear hF a; intro a hF
  refine ls_val hF (.free rfl) rfl rfl (ex_move rfl rfl) ?_; clear hF a; intro a hF
  refine by_slot hF (d := 18) rfl ?_ ?_ <;> clear hF <;> intro hc hF
  ·
   refine ls_off hF (.on rfl rfl rfl rfl rfl) rfl rfl ?_; clear hF a; intro a hF
   refine ls_off hF (.on rfl rfl rfl rfl rfl) rfl rfl ?_; clear hF a; intro a hF
   refine ls_off hF (.on rfl rfl rfl rfl rfl) rfl rfl ?_; clear hF a; intro a hF
   refine ls_val hF (.free rfl) rfl rfl (ex_pick_t rfl rfl rfl) ?_; clear hF a; intro a hF
   refine ls_nil ?_
   refine then_normal ?_
   refine cw_t hF rfl ?_
   refine cw_seq ?_
   refine wp_region_lit ?_
   refine ls_call hF (.free rfl) rfl rfl (ex_call0 rfl rfl cl_12 args0) (c_awake w) ?_; clear hF; rintro _ w ⟨rfl, hS'⟩ a hF
   replace hS : Sat w0 w [.blk g1 [vc, vA, vb]] := hS.comp hS'; clear hS'
   refine ls_val hF (.free rfl) rfl rfl (ex_assign rfl rfl) ?_; clear hF a; intro a hF
   refine ls_nil ?_
   refine then_normal ?_
   refine wp_ret ?_
   refine then_ret ((fin1 hF rfl rfl ⟨_, rfl, ?_⟩))
   exact ⟨rfl, hS.sub (.cons _ .slnil)⟩
  ·
   refine ls_val hF (.on rfl rfl rfl rfl rfl) rfl rfl (ex_loads_blk 0 rfl st_25 rfl hS rfl rfl) ?_; clear hF a; intro a hF
   refine ls_call hF (.on rfl rfl rfl rfl rfl) rfl rfl (ex_call0 rfl rfl cl_14 (args_cons rfl args0)) (c_rvalid (p := p) w (hL.below hS.below)) ?_; clear hF; rintro _ w ⟨rfl, hS'⟩ a hF
   replace hS : Sat w0 w [.blk g1 [vc, vA, vb]] := hS.comp hS'; clear hS'
   refine ls_val hF (.on rfl rfl rfl rfl rfl) rfl rfl (ex_not rfl rfl) ?_; clear hF a; intro a hF
   refine ls_val hF (.free rfl) rfl rfl (ex_pick_f rfl rfl rfl) ?_; clear hF a; intro a hF
   refine ls_nil ?_
   refine then_normal ?_
   refine cw_if hF rfl (fun hc => ?_) (fun hc => ?_)
   ·
    refine cw_seq ?_
    refine wp_region_lit ?_
    refine ls_call hF (.free rfl) rfl rfl (ex_call0 rfl rfl cl_12 args0) (c_awake w) ?_; clear hF; rintro _ w ⟨rfl, hS'⟩ a hF
    replace hS : Sat w0 w [.blk g1 [vc, vA, vb]] := hS.comp hS'; clear hS'
    refine ls_val hF (.free rfl) rfl rfl (ex_assign rfl rfl) ?_; clear hF a; intro a hF
    refine ls_nil ?_
    refine then_normal ?_
    refine wp_ret ?_
    refine then_ret ((fin1 hF rfl rfl ⟨_, rfl, ?_⟩))
    exact ⟨rfl, hS.sub (.cons _ .slnil)⟩
   ·
    refine wp_skip ?_
    refine then_normal ?_
    refine cw_seq ?_
    refine wp_region_lit ?_
    refine ls_val hF (.free rfl) rfl rfl (ex_loads_blk 0 rfl st_25 rfl hS rfl rfl) ?_; clear hF a; intro a hF
    have hl : LOk p := by first | assumption | exact Classical.not_not.1 ‹¬ ¬ (LOk p)›
    have b1 := hl.n1; have b2 := hl.n2; have b3 := hl.m2; have b4 := hl.k
    refine ls_call hF (.free rfl) rfl rfl (ex_call0 rfl rfl cl_16 (args_cons rfl args0)) (c_own (p := p) w (hL.below hS.below)) ?_; clear hF; rintro _ w ⟨rfl, hS'⟩ a hF
    replace hS : Sat w0 w [.blk g1 [vc, vA, vb]] := hS.comp hS'; clear hS'
    refine ls_call hF (.free rfl) rfl rfl (ex_call0 rfl rfl cl_15 (args_cons rfl args0)) (c_solve (p := p) w (hL.below hS.below)) ?_; clear hF; rintro _ w ⟨vXs1, vYs1, ss1, es1, rfl, hsos1, hvXs1, hvYs1, hS'⟩ a hF
    replace hS : Sat w0 w [.blk g1 [vc, vA, vb], .own vXs1 1 3 ss1.n (ints ss1.X), .own vYs1 1 3 ss1.m (ints ss1.Y)] := hS.comp hS'; clear hS'
    refine ls_val hF (.free rfl) rfl rfl (ex_move rfl rfl) ?_; clear hF a; intro a hF
    refine ls_val hF (.free rfl) rfl rfl (ex_extract rfl rfl rfl) ?_; clear hF a; intro a hF
    refine ls_val hF (.free rfl) rfl rfl (ex_extract rfl rfl rfl) ?_; clear hF a; intro a hF
    refine ls_any hF (.free rfl) rfl rfl (ex_alloc (cs := [.slice none 0 0, .slice none 0 0, .int .i64 0, .int .i64 0]) rfl el_30 hS rfl) ?_; clear hF; rintro _ w ⟨g2, rfl, hS⟩ a hF
    replace hS : Sat w0 w [.blk g1 [vc, vA, vb], .own vXs1 1 3 ss1.n (ints ss1.X), .own vYs1 1 3 ss1.m (ints ss1.Y), .blk g2 [.slice none 0 0, .slice none 0 0, .int .i64 0, .int .i64 0]] := hS
    refine ls_effx hF (.free rfl) rfl (st_blks 3 (ds := [vXs1, vYs1, .int .i64 ss1.val, .int .i64 ss1.den]) rfl st_30 hS rfl rfl rfl rfl (ones_cons hvXs1.one (ones_cons hvYs1.one (ones_cons rfl (ones_cons rfl ones_nil))))) ?_; clear hS; rintro w hS
    replace hS : Sat w0 w [.blk g1 [vc, vA, vb], .own vXs1 1 3 ss1.n (ints ss1.X), .own vYs1 1 3 ss1.m (ints ss1.Y), .blk g2 [vXs1, vYs1, .int .i64 ss1.val, .int .i64 ss1.den]] := hS
    refine ls_val hF (.free rfl) rfl rfl (ex_assign rfl rfl) ?_; clear hF a; intro a hF
    refine ls_nil ?_
    refine then_normal ?_
    refine cw_seq ?_
    refine cw_seq ?_
    refine wp_region_lit ?_
    refine ls_val hF (.free rfl) rfl rfl (ex_move rfl rfl) ?_; clear hF a; intro a hF
    refine ls_val hF (.free rfl) rfl rfl (ex_neq rfl rfl rfl) ?_; clear hF a; intro a hF
    refine ls_nil ?_
    refine then_normal ?_
    refine cw_if hF rfl (fun hc => ?_) (fun hc => ?_)
    ·
     refine cw_seq ?_
     refine wp_region_lit ?_
     refine ls_val hF (.free rfl) rfl rfl (ex_field (b := ⟨g2, 3, none⟩) rfl fd_30_3 rfl rfl) ?_; clear hF a; intro a hF
     refine ls_val hF (.free rfl) rfl rfl (ex_load_blk 3 rfl pl_3 rfl hS rfl rfl) ?_; clear hF a; intro a hF
     refine ls_val hF (.free rfl) rfl rfl (ex_eql rfl rfl rfl) ?_; clear hF a; intro a hF
     refine ls_val hF (.free rfl) rfl rfl (ex_move rfl rfl) ?_; clear hF a; intro a hF
     refine by_slot hF (d := 35) rfl ?_ ?_ <;> clear hF <;> intro hc hF
     ·
      refine ls_val hF (.on rfl rfl rfl rfl rfl) rfl rfl (ex_field (b := ⟨g2, 0, none⟩) rfl fd_30_0 rfl rfl) ?_; clear hF a; intro a hF
      refine ls_val hF (.on rfl rfl rfl rfl rfl) rfl rfl (ex_load_blk 3 rfl pl_22 rfl hS rfl rfl) ?_; clear hF a; intro a hF
      refine ls_val hF (.on rfl rfl rfl rfl rfl) rfl rfl (ex_len rfl sl_22 rfl hvXs1) ?_; clear hF a; intro a hF
      refine ls_val hF (.on rfl rfl rfl rfl rfl) rfl rfl (ex_eql rfl rfl rfl) ?_; clear hF a; intro a hF
      refine ls_val hF (.free rfl) rfl rfl (ex_pick_t rfl rfl rfl) ?_; clear hF a; intro a hF
      refine ls_val hF (.free rfl) rfl rfl (ex_assign rfl rfl) ?_; clear hF a; intro a hF
      refine ls_nil ?_
      refine then_normal ?_
      refine wp_ret ?_
      refine then_ret ((fin1 hF rfl rfl ⟨_, rfl, ?_⟩))
      have hz := hsos1.zero (by omega)
      exact ⟨(true_B (by rw [hz]; rfl)).symm, hS.sub (.cons _ (.cons _ (.cons _ (.cons _ .slnil))))⟩
     ·
      refine ls_off hF (.on rfl rfl rfl rfl rfl) rfl rfl ?_; clear hF a; intro a hF
      refine ls_off hF (.on rfl rfl rfl rfl rfl) rfl rfl ?_; clear hF a; intro a hF
      refine ls_off hF (.on rfl rfl rfl rfl rfl) rfl rfl ?_; clear hF a; intro a hF
      refine ls_off hF (.on rfl rfl rfl rfl rfl) rfl rfl ?_; clear hF a; intro a hF
      refine ls_val hF (.free rfl) rfl rfl (ex_pick_f rfl rfl rfl) ?_; clear hF a; intro a hF
      refine ls_val hF (.free rfl) rfl rfl (ex_assign rfl rfl) ?_; clear hF a; intro a hF
      refine ls_nil ?_
      refine then_normal ?_
      refine wp_ret ?_
      refine then_ret ((fin1 hF rfl rfl ⟨_, rfl, ?_⟩))
      first
      | exact absurd hcs ‹¬ ChkS p ss1›
      | exact absurd (show ss1.den = 0 by rw [hsos1.zero (by omega)]; rfl) ‹¬ ss1.den = 0›
    ·
     refine wp_skip ?_
     refine then_normal ?_
     refine cw_seq ?_
     refine cw_seq ?_
     refine dr_sat (m0 := [.blk g1 [vc, vA, vb], .own vXs1 1 3 ss1.n (ints ss1.X), .own vYs1 1 3 ss1.m (ints ss1.Y), .blk g2 [vXs1, vYs1, .int .i64 ss1.val, .int .i64 ss1.den]]) (m1 := [.blk g1 [vc, vA, vb], .own vXs1 1 3 ss1.n (ints ss1.X), .own vYs1 1 3 ss1.m (ints ss1.Y), .blk g2 [vXs1, vYs1, .int .i64 ss1.val, .int .i64 ss1.den]]) 1000 mx_ hS (.cons_cons _ (.cons_cons _ (.cons_cons _ (.cons_cons _ .slnil)))) (.cons_cons _ (.cons_cons _ (.cons_cons _ (.cons_cons _ .slnil)))) rfl ?_; clear hS; intro w hS hcl hB
     refine dr_loadA hF hcl hB 0 rfl (.free rfl) rfl rfl (by kernel_rfl) rfl (fun w hS => (ex_loads_blk 0 rfl st_25 rfl hS rfl rfl)) ?_; clear hF a hcl hB; intro a hF hcl hB
     refine dr_loadA hF hcl hB 1 rfl (.free rfl) rfl rfl (by kernel_rfl) rfl (fun w hS => (ex_loads_blk 3 rfl st_30 rfl hS rfl rfl)) ?_; clear hF a hcl hB; intro a hF hcl hB
     have hcs := hsos1.chk (by omega) (by omega); have hfew : FewP p := by first | assumption | exact Classical.not_not.1 ‹_›
     have hf1 := hfew.2.1
     refine dr_call hF hcl 2 rfl (.free rfl) rfl rfl (by kernel_rfl) (ex_call0 rfl rfl cl_17 (args_cons rfl (args_cons rfl args0))) (c_rcheck (p := p) (s := ss1) w (hL.below hS.below) (hS.rowN 1 rfl) (hS.rowN 2 rfl)) ?_; clear hF hB; rintro _ w ⟨rfl, hS'⟩ a hF hcl
     replace hS : Sat w0 w [.blk g1 [vc, vA, vb], .own vXs1 1 3 ss1.n (ints ss1.X), .own vYs1 1 3 ss1.m (ints ss1.Y), .blk g2 [vXs1, vYs1, .int .i64 ss1.val, .int .i64 ss1.den]] := hS.comp hS'; clear hS'
     refine ⟨⟨(fun _ => hS.sub (.cons_cons _ (.cons_cons _ (.cons_cons _ (.cons_cons _ .slnil))))), hS.sub (.cons_cons _ (.cons_cons _ (.cons_cons _ (.cons_cons _ .slnil))))⟩, fun hB => ?_⟩
     refine dr_val hF hcl hB 3 rfl (.free rfl) rfl rfl (by kernel_rfl) rfl (fun w => (ex_not rfl rfl)) ?_; clear hF a hcl hB; intro a hF hcl hB
     refine dr_val hF hcl hB 4 rfl (.free rfl) rfl rfl (by kernel_rfl) rfl (fun w => (ex_move rfl rfl)) ?_; clear hF a hcl hB; intro a hF hcl hB
     refine by_slot hF (d := 45) rfl ?_ ?_ <;> clear hF <;> intro hc hF
     ·
      refine dr_off hF hcl hB 5 rfl (.on rfl rfl rfl rfl rfl) rfl rfl (by kernel_rfl) rfl ?_; clear hF a hcl hB; intro a hF hcl hB
      refine dr_off hF hcl hB 7 rfl (.on rfl rfl rfl rfl rfl) rfl rfl (by kernel_rfl) rfl ?_; clear hF a hcl hB; intro a hF hcl hB
      refine dr_off hF hcl hB 6 rfl (.on rfl rfl rfl rfl rfl) rfl rfl (by kernel_rfl) rfl ?_; clear hF a hcl hB; intro a hF hcl hB
      refine dr_off hF hcl hB 8 rfl (.on rfl rfl rfl rfl rfl) rfl rfl (by kernel_rfl) rfl ?_; clear hF a hcl hB; intro a hF hcl hB
      refine dr_off hF hcl hB 9 rfl (.on rfl rfl rfl rfl rfl) rfl rfl (by kernel_rfl) rfl ?_; clear hF a hcl hB; intro a hF hcl hB
      refine dr_val hF hcl hB 10 rfl (.free rfl) rfl rfl (by kernel_rfl) rfl (fun w => (ex_pick_t rfl rfl rfl)) ?_; clear hF a hcl hB; intro a hF hcl hB
      refine dr_done (by kernel_rfl) ?_; clear hcl hB
      refine then_normal ?_
      refine cw_t hF rfl ?_
      refine cw_seq ?_
      refine wp_region_lit ?_
      refine ls_val hF (.free rfl) rfl rfl (ex_assign rfl rfl) ?_; clear hF a; intro a hF
      refine ls_nil ?_
      refine then_normal ?_
      refine wp_ret ?_
      refine then_ret ((fin1 hF rfl rfl ⟨_, rfl, ?_⟩))
      first
      | exact absurd hcs ‹¬ ChkS p ss1›
      | exact absurd (show ss1.den = 0 by rw [hsos1.zero (by omega)]; rfl) ‹¬ ss1.den = 0›
     ·
      refine dr_loadA hF hcl hB 5 rfl (.on rfl rfl rfl rfl rfl) rfl rfl (by kernel_rfl) rfl (fun w hS => (ex_loads_blk 0 rfl st_25 rfl hS rfl rfl)) ?_; clear hF a hcl hB; intro a hF hcl hB
      refine dr_loadA hF hcl hB 7 rfl (.on rfl rfl rfl rfl rfl) rfl rfl (by kernel_rfl) rfl (fun w hS => (ex_loads_blk 3 rfl st_30 rfl hS rfl rfl)) ?_; clear hF a hcl hB; intro a hF hcl hB
      refine dr_call hF hcl 6 rfl (.on rfl rfl rfl rfl rfl) rfl rfl (by kernel_rfl) (ex_call0 rfl rfl cl_16 (args_cons rfl args0)) (c_own (p := p) w (hL.below hS.below)) ?_; clear hF hB; rintro _ w ⟨rfl, hS'⟩ a hF hcl
      replace hS : Sat w0 w [.blk g1 [vc, vA, vb], .own vXs1 1 3 ss1.n (ints ss1.X), .own vYs1 1 3 ss1.m (ints ss1.Y), .blk g2 [vXs1, vYs1, .int .i64 ss1.val, .int .i64 ss1.den]] := hS.comp hS'; clear hS'
      refine ⟨⟨(fun _ => hS.sub (.cons_cons _ (.cons_cons _ (.cons_cons _ (.cons_cons _ .slnil))))), hS.sub (.cons_cons _ (.cons_cons _ (.cons_cons _ (.cons_cons _ .slnil))))⟩, fun hB => ?_⟩
      refine dr_call hF hcl 8 rfl (.on rfl rfl rfl rfl rfl) rfl rfl (by kernel_rfl) (ex_call0 rfl rfl cl_18 (args_cons rfl (args_cons rfl args0))) (c_check (p := p) (s := ss1) w (hL.below hS.below) (hS.rowN 1 rfl) (hS.rowN 2 rfl)) ?_; clear hF hB; rintro _ w ⟨rfl, hS'⟩ a hF hcl
      replace hS : Sat w0 w [.blk g1 [vc, vA, vb], .own vXs1 1 3 ss1.n (ints ss1.X), .own vYs1 1 3 ss1.m (ints ss1.Y), .blk g2 [vXs1, vYs1, .int .i64 ss1.val, .int .i64 ss1.den]] := hS.comp hS'; clear hS'
      refine ⟨⟨(fun _ => hS.sub (.cons_cons _ (.cons_cons _ (.cons_cons _ (.cons_cons _ .slnil))))), hS.sub (.cons_cons _ (.cons_cons _ (.cons_cons _ (.cons_cons _ .slnil))))⟩, fun hB => ?_⟩
      refine dr_val hF hcl hB 9 rfl (.on rfl rfl rfl rfl rfl) rfl rfl (by kernel_rfl) rfl (fun w => (ex_not rfl rfl)) ?_; clear hF a hcl hB; intro a hF hcl hB
      refine dr_val hF hcl hB 10 rfl (.free rfl) rfl rfl (by kernel_rfl) rfl (fun w => (ex_pick_f rfl rfl rfl)) ?_; clear hF a hcl hB; intro a hF hcl hB
      refine dr_done (by kernel_rfl) ?_; clear hcl hB
      refine then_normal ?_
      refine cw_if hF rfl (fun hc => ?_) (fun hc => ?_)
      ·
       refine cw_seq ?_
       refine wp_region_lit ?_
       refine ls_val hF (.free rfl) rfl rfl (ex_assign rfl rfl) ?_; clear hF a; intro a hF
       refine ls_nil ?_
       refine then_normal ?_
       refine wp_ret ?_
       refine then_ret ((fin1 hF rfl rfl ⟨_, rfl, ?_⟩))
       first
       | exact absurd hcs ‹¬ ChkS p ss1›
       | exact absurd (show ss1.den = 0 by rw [hsos1.zero (by omega)]; rfl) ‹¬ ss1.den = 0›
      ·
       refine wp_skip ?_
       refine then_normal ?_
       refine cw_seq ?_
       refine wp_region_lit ?_
       refine ls_val hF (.free rfl) rfl rfl (ex_field (b := ⟨g1, 0, none⟩) rfl fd_25_0 rfl rfl) ?_; clear hF a; intro a hF
       refine ls_val hF (.free rfl) rfl rfl (ex_load_blk 0 rfl pl_22 rfl hS rfl rfl) ?_; clear hF a; intro a hF
       have hcs := hsos1.chk (by omega) (by omega); have hfew : FewP p := by first | assumption | exact Classical.not_not.1 ‹_›
       have hf1 := hfew.2.1
       refine ls_val hF (.free rfl) rfl rfl (ex_len rfl sl_22 rfl hL.c.slh) ?_; clear hF a; intro a hF
       refine ls_any hF (.free rfl) rfl rfl (ex_make rfl sl_22 el_3 rfl rfl hS rfl rfl (by omega) (by omega) (by omega)) ?_; clear hF; rintro v1 w ⟨hS, hv1⟩ a hF
       replace hS : Sat w0 w [.blk g1 [vc, vA, vb], .own vXs1 1 3 ss1.n (ints ss1.X), .own vYs1 1 3 ss1.m (ints ss1.Y), .blk g2 [vXs1, vYs1, .int .i64 ss1.val, .int .i64 ss1.den], .own v1 1 3 p.n (ints (fun _ => 0))] := hS
       refine ls_val hF (.free rfl) rfl rfl (ex_assign rfl rfl) ?_; clear hF a; intro a hF
       refine ls_nil ?_
       refine then_normal ?_
       refine cw_seq ?_
       refine cw_seq ?_
       refine wp_region_lit ?_
       refine ls_val hF (.free rfl) rfl rfl (ex_move rfl rfl) ?_; clear hF a; intro a hF
       refine ls_val hF (.free rfl) rfl rfl (ex_len rfl sl_22 rfl hv1) ?_; clear hF a; intro a hF
       refine ls_val hF (.free rfl) rfl rfl (ex_move rfl rfl) ?_; clear hF a; intro a hF
       refine ls_nil ?_
       refine then_normal ?_
       refine wp_block ?_
       have hl1 := hl.n1
       refine cw_loop (fun mm a w => ∃ (i : Int) (fO : Int → Int), mm = ((p.n - i).toNat) ∧ (0 ≤ i) ∧ (i ≤ p.n) ∧ (∀ k, 0 ≤ k → k < p.n → 0 ≤ fO k ∧ fO k ≤ 255) ∧ Fr a 91 [(1, vu), (2, .pointer (some ⟨g1, 0, none⟩)), (4, .bool false), (5, .pointer (some ⟨g2, 0, none⟩)), (7, v1), (57, .int .i64 p.n), (58, .int .i64 i)] ∧ Sat w0 w [.blk g1 [vc, vA, vb], .own vXs1 1 3 ss1.n (ints ss1.X), .own vYs1 1 3 ss1.m (ints ss1.Y), .blk g2 [vXs1, vYs1, .int .i64 ss1.val, .int .i64 ss1.den], .own v1 1 3 p.n (ints fO)]) ?_ ?_ (m := ((p.n - 0).toNat))
       ·
        refine ⟨0, (fun _ => 0), rfl, (by omega), (by omega), ?_, (hF.pick (hF.pick (hF.pick (hF.pick (hF.pick (hF.pick (hF.pick hF.nil 58 rfl) 57 rfl) 7 rfl) 5 rfl) 4 rfl) 2 rfl) 1 rfl), hS⟩
        ·
         intro k k0 k1; exact ⟨Int.le_refl 0, show (0 : Int) ≤ 255 by decide⟩
       ·
        clear hF hS a w
        rintro mm a w ⟨i, fO, rfl, h0, h1, hO, hF, hS⟩
        refine cw_seq ?_
        refine wp_region_lit ?_
        refine ls_val hF (.free rfl) rfl rfl (ex_lss rfl rfl rfl) ?_; clear hF a; intro a hF
        refine ls_nil ?_
        refine then_normal ?_
        refine cw_seq ?_
        refine cw_if hF rfl (fun hc => ?_) (fun hc => ?_)
        ·
         refine wp_skip ?_
         refine then_normal ?_
         refine cw_seq ?_
         refine wp_block ?_
         refine cw_seq ?_
         refine wp_region_lit ?_
         refine ls_val hF (.free rfl) rfl rfl (ex_move rfl rfl) ?_; clear hF a; intro a hF
         refine ls_val hF (.free rfl) rfl rfl (ex_assign rfl rfl) ?_; clear hF a; intro a hF
         refine ls_nil ?_
         refine then_normal ?_
         refine cw_seq ?_
         refine wp_region_lit ?_
         refine ls_val hF (.free rfl) rfl rfl (ex_move rfl rfl) ?_; clear hF a; intro a hF
         refine ls_val hF (.free rfl) rfl rfl (ex_move rfl rfl) ?_; clear hF a; intro a hF
         refine ls_val hF (.free rfl) rfl rfl (ex_len rfl sl_26 rfl hU.slh) ?_; clear hF a; intro a hF
         refine ls_val hF (.free rfl) rfl rfl (ex_lss rfl rfl rfl) ?_; clear hF a; intro a hF
         refine ls_nil ?_
         refine then_normal ?_
         refine cw_if hF rfl (fun hc => ?_) (fun hc => ?_)
         ·
          refine wp_region_lit ?_
          refine ls_val hF (.free rfl) rfl rfl (ex_move rfl rfl) ?_; clear hF a; intro a hF
          refine ls_val hF (.free rfl) rfl rfl (ex_move rfl rfl) ?_; clear hF a; intro a hF
          refine ls_val hF (.free rfl) rfl rfl (ex_move rfl rfl) ?_; clear hF a; intro a hF
          refine ls_val hF (.free rfl) rfl rfl (ex_move rfl rfl) ?_; clear hF a; intro a hF
          refine ls_val hF (.free rfl) rfl rfl (ex_index (k := i) rfl sl_26 rfl rfl hU.slh (by omega) (by omega) (by omega)) ?_; clear hF a; intro a hF
          refine ls_val hF (.free rfl) rfl rfl (ex_load_row (u := .int .u8 (fu i)) rfl pl_5 rfl (hU.below hS.below) (by omega) (by omega) rfl) ?_; clear hF a; intro a hF
          have hui := hub i
          refine ls_val hF (.free rfl) rfl rfl (ex_conv rfl so_5 it_3 rfl (by unfold InK; omega)) ?_; clear hF a; intro a hF
          refine ls_val hF (.free rfl) rfl rfl (ex_index (k := i) rfl sl_22 rfl rfl hv1 (by omega) (by omega) (by omega)) ?_; clear hF a; intro a hF
          refine ls_effx hF (.free rfl) rfl (st_own 4 rfl pl_3 hS rfl rfl rfl rfl (by omega) (by omega) (upd_ints _ _ _)) ?_; clear hS; rintro w hS
          replace hS : Sat w0 w [.blk g1 [vc, vA, vb], .own vXs1 1 3 ss1.n (ints ss1.X), .own vYs1 1 3 ss1.m (ints ss1.Y), .blk g2 [vXs1, vYs1, .int .i64 ss1.val, .int .i64 ss1.den], .own v1 1 3 p.n (ints (upd fO i (fu i)))] := hS
          refine ls_nil ?_
          refine inb_normal ?_
          refine then_normal ?_
          refine wp_region_lit ?_
          refine ls_val hF (.free rfl) rfl rfl (ex_add (r := i + 1) rfl rfl rfl (by omega) (by unfold I64; omega)) ?_; clear hF a; intro a hF
          refine ls_val hF (.free rfl) rfl rfl (ex_move rfl rfl) ?_; clear hF a; intro a hF
          refine ls_nil ?_
          refine then_normal ?_
          refine ⟨_, (by omega), i + 1, (upd fO i (fu i)), rfl, (by omega), (by omega), ?_, (hF.pick (hF.pick (hF.pick (hF.pick (hF.pick (hF.pick (hF.pick hF.nil 58 rfl) 57 rfl) 7 rfl) 5 rfl) 4 rfl) 2 rfl) 1 rfl), hS⟩
          ·
           first | exact hO | (intro k k0 k1; by_cases e : k = i
                               · rw [e, upd_self]; exact hub i
                               · rw [upd_ne _ _ e]; exact hO k k0 k1)
         ·
          refine wp_skip ?_
          refine inb_normal ?_
          refine then_normal ?_
          refine wp_region_lit ?_
          refine ls_val hF (.free rfl) rfl rfl (ex_add (r := i + 1) rfl rfl rfl (by omega) (by unfold I64; omega)) ?_; clear hF a; intro a hF
          refine ls_val hF (.free rfl) rfl rfl (ex_move rfl rfl) ?_; clear hF a; intro a hF
          refine ls_nil ?_
          refine then_normal ?_
          refine ⟨_, (by omega), i + 1, fO, rfl, (by omega), (by omega), ?_, (hF.pick (hF.pick (hF.pick (hF.pick (hF.pick (hF.pick (hF.pick hF.nil 58 rfl) 57 rfl) 7 rfl) 5 rfl) 4 rfl) 2 rfl) 1 rfl), hS⟩
          ·
           first | exact hO | (intro k k0 k1; by_cases e : k = i
                               · rw [e, upd_self]; exact hub i
                               · rw [upd_ne _ _ e]; exact hO k k0 k1)
        ·
         refine wp_exit ?_
         refine then_exit ?_
         refine then_exit ?_
         refine inb_hit ?_
         refine then_normal ?_
         refine cw_seq ?_
         refine wp_region_lit ?_
         refine ls_val hF (.free rfl) rfl rfl (ex_loads_blk 0 rfl st_25 rfl hS rfl rfl) ?_; clear hF a; intro a hF
         have hxb : ∀ k, 0 ≤ k → k < p.n → -1073741824 ≤ fO k ∧ fO k ≤ 1073741824 := fun k k0 k1 => by have := hO k k0 k1; omega
         refine ls_val hF (.free rfl) rfl rfl (ex_move rfl rfl) ?_; clear hF a; intro a hF
         refine ls_call hF (.free rfl) rfl rfl (ex_call0 rfl rfl cl_19 (args_cons rfl (args_cons rfl args0))) (c_permittedB (p := p) (x := fO) w (hL.below hS.below) hl (hS.rowN 4 rfl) hxb) ?_; clear hF; rintro _ w ⟨cost, ok, rfl, hpm, hS'⟩ a hF
         replace hS : Sat w0 w [.blk g1 [vc, vA, vb], .own vXs1 1 3 ss1.n (ints ss1.X), .own vYs1 1 3 ss1.m (ints ss1.Y), .blk g2 [vXs1, vYs1, .int .i64 ss1.val, .int .i64 ss1.den], .own v1 1 3 p.n (ints fO)] := hS.comp hS'; clear hS'
         refine ls_val hF (.free rfl) rfl rfl (ex_move rfl rfl) ?_; clear hF a; intro a hF
         refine ls_val hF (.free rfl) rfl rfl (ex_extract rfl rfl rfl) ?_; clear hF a; intro a hF
         refine ls_val hF (.free rfl) rfl rfl (ex_extract rfl rfl rfl) ?_; clear hF a; intro a hF
         refine ls_val hF (.free rfl) rfl rfl (ex_assign rfl rfl) ?_; clear hF a; intro a hF
         refine ls_val hF (.free rfl) rfl rfl (ex_assign rfl rfl) ?_; clear hF a; intro a hF
         refine ls_nil ?_
         refine then_normal ?_
         refine cw_seq ?_
         refine wp_region_lit ?_
         refine ls_val hF (.free rfl) rfl rfl (ex_move rfl rfl) ?_; clear hF a; intro a hF
         refine ls_val hF (.free rfl) rfl rfl (ex_not rfl rfl) ?_; clear hF a; intro a hF
         refine ls_val hF (.free rfl) rfl rfl (ex_move rfl rfl) ?_; clear hF a; intro a hF
         refine by_slot hF (d := 82) rfl ?_ ?_ <;> clear hF <;> intro hc hF
         ·
          refine ls_off hF (.on rfl rfl rfl rfl rfl) rfl rfl ?_; clear hF a; intro a hF
          refine ls_off hF (.on rfl rfl rfl rfl rfl) rfl rfl ?_; clear hF a; intro a hF
          refine ls_off hF (.on rfl rfl rfl rfl rfl) rfl rfl ?_; clear hF a; intro a hF
          refine ls_off hF (.on rfl rfl rfl rfl rfl) rfl rfl ?_; clear hF a; intro a hF
          refine ls_off hF (.on rfl rfl rfl rfl rfl) rfl rfl ?_; clear hF a; intro a hF
          refine ls_off hF (.on rfl rfl rfl rfl rfl) rfl rfl ?_; clear hF a; intro a hF
          refine ls_off hF (.on rfl rfl rfl rfl rfl) rfl rfl ?_; clear hF a; intro a hF
          refine ls_val hF (.free rfl) rfl rfl (ex_pick_t rfl rfl rfl) ?_; clear hF a; intro a hF
          refine ls_val hF (.free rfl) rfl rfl (ex_assign rfl rfl) ?_; clear hF a; intro a hF
          refine ls_nil ?_
          refine then_normal ?_
          refine wp_ret ?_
          refine (fin1 hF rfl rfl ⟨_, rfl, ?_⟩)
          exact ⟨rfl, hS.sub (.cons _ (.cons _ (.cons _ (.cons _ (.cons _ .slnil)))))⟩
         ·
          refine ls_val hF (.on rfl rfl rfl rfl rfl) rfl rfl (ex_move rfl rfl) ?_; clear hF a; intro a hF
          have hok : ok = true := by first | assumption | exact Classical.not_not.1 ‹_›
          obtain ⟨hb1, hcost⟩ : (∀ i, 0 ≤ i → i < p.m → p.b i ≤ dotp (p.A i) fO p.n.toNat) ∧ cost = dotp p.c fO p.n.toNat := by
           rcases hpm with ⟨_, _, h⟩ | ⟨h1, h2, _⟩
           · rw [hok] at h; cases h
           · exact ⟨h1, h2⟩
          have hbest := chk_best hcs (by omega) (fun k k0 k1 => (hO k k0 k1).1) hb1; rw [← hcost] at hbest
          have hbd := dotp_bd (f := p.c) (g := fO) (A := 1000000) (B := 255) (by omega) (by omega) p.n.toNat (fun k k0 k1 => by have := hl.c k k0 (by omega); omega) (fun k k0 k1 => by have := hO k k0 (by omega); omega); rw [← hcost] at hbd
          have hsd := hcs.d1; have hsd2 := hcs.d2
          have hmu2 := mul_abs (a := cost) (A := 3060000000) (by omega) (show -1073741824 ≤ ss1.den ∧ ss1.den ≤ 1073741824 by omega)
          refine ls_val hF (.on rfl rfl rfl rfl rfl) rfl rfl (ex_field (b := ⟨g2, 3, none⟩) rfl fd_30_3 rfl rfl) ?_; clear hF a; intro a hF
          refine ls_val hF (.on rfl rfl rfl rfl rfl) rfl rfl (ex_load_blk 3 rfl pl_3 rfl hS rfl rfl) ?_; clear hF a; intro a hF
          refine ls_val hF (.on rfl rfl rfl rfl rfl) rfl rfl (ex_mul (r := (cost * ss1.den)) rfl rfl rfl rfl (by unfold I64; omega)) ?_; clear hF a; intro a hF
          refine ls_val hF (.on rfl rfl rfl rfl rfl) rfl rfl (ex_field (b := ⟨g2, 2, none⟩) rfl fd_30_2 rfl rfl) ?_; clear hF a; intro a hF
          refine ls_val hF (.on rfl rfl rfl rfl rfl) rfl rfl (ex_load_blk 3 rfl pl_3 rfl hS rfl rfl) ?_; clear hF a; intro a hF
          refine ls_val hF (.on rfl rfl rfl rfl rfl) rfl rfl (ex_geq rfl rfl rfl) ?_; clear hF a; intro a hF
          refine ls_val hF (.free rfl) rfl rfl (ex_pick_f rfl rfl rfl) ?_; clear hF a; intro a hF
          refine ls_val hF (.free rfl) rfl rfl (ex_assign rfl rfl) ?_; clear hF a; intro a hF
          refine ls_nil ?_
          refine then_normal ?_
          refine wp_ret ?_
          refine (fin1 hF rfl rfl ⟨_, rfl, ?_⟩)
          exact ⟨(true_B hbest).symm, hS.sub (.cons _ (.cons _ (.cons _ (.cons _ (.cons _ .slnil)))))⟩

end Go.Proofs.Ytakgjpmhbfieeaa
