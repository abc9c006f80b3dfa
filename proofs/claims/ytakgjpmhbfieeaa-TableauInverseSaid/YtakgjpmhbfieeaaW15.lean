/- The walks of Check, of the reference, and of permitted. -/
import Derived.Test.YtakgjpmhbfieeaaW14
namespace Go.Proofs.Ytakgjpmhbfieeaa
open Go Go.RowKit Go.Proofs.Gw
set_option linter.unusedVariables false

theorem cl_41 : calledT Try.prog 41 = true := by kernel_rfl
theorem cl_42 : calledT Try.prog 42 = true := by kernel_rfl
theorem fd_37_0 : fieldT Try.prog 37 0 = some 0 := by kernel_rfl
theorem fd_37_1 : fieldT Try.prog 37 1 = some 1 := by kernel_rfl
theorem fd_37_2 : fieldT Try.prog 37 2 = some 2 := by kernel_rfl
theorem fd_37_3 : fieldT Try.prog 37 3 = some 3 := by kernel_rfl
set_option maxRecDepth 20000 in
theorem c_rcheck {vc vA vb : Value} {vq : Int → Value} {p : Lp} {vX vY : Value} {s : So} (w0 : World) (hL : LAt w0 vc vA vb vq p) (hX : Row w0 vX 1 s.n (ints s.X)) (hY : Row w0 vY 1 s.m (ints s.Y)) :
    Calls Try.prog 17 [.agg #[vc, vA, vb], .agg #[vX, vY, .int .i64 s.val, .int .i64 s.den]].toArray w0 fun e w => ∃ v, e = .returned v ∧ v = B (ChkS p s) ∧ Sat w0 w [] := by
  have hn := hL.c.slh.n0; have hn1 := hL.c.slh.n1; have hm := hL.A.row.slh.n0; have hm1 := hL.A.row.slh.n1; have hk := hL.b.slh.n0; have hk1 := hL.b.slh.n1
  refine enterS (vs := [.agg #[vc, vA, vb], .agg #[vX, vY, .int .i64 s.val, .int .i64 s.den]]) Try.func17 rfl Try.ntmps17 rfl ?_
  intro a w hS hF
  refine cw_seq ?_
  refine wp_region_lit ?_
  refine ls_any hF (.free rfl) rfl rfl (ex_box (cs := [vc, vA, vb]) rfl hS rfl rfl) ?_; clear hF; rintro _ w ⟨g1, rfl, hS⟩ a hF
  replace hS : Sat w0 w [.blk g1 [vc, vA, vb]] := hS
  refine ls_any hF (.free rfl) rfl rfl (ex_box (cs := [vX, vY, .int .i64 s.val, .int .i64 s.den]) rfl hS rfl rfl) ?_; clear hF; rintro _ w ⟨g2, rfl, hS⟩ a hF
  replace hS : Sat w0 w [.blk g1 [vc, vA, vb], .blk g2 [vX, vY, .int .i64 s.val, .int .i64 s.den]] := hS
  refine ls_val hF (.free rfl) rfl rfl (ex_assign rfl rfl) ?_; clear hF a; intro a hF
  refine ls_nil ?_
  refine then_normal ?_
  refine cw_seq ?_
  refine cw_seq ?_
  refine wp_region_lit ?_
  refine ls_val hF (.free rfl) rfl rfl (ex_loads_blk 0 rfl st_25 rfl hS rfl rfl) ?_; clear hF a; intro a hF
  refine ls_call hF (.free rfl) rfl rfl (ex_call0 rfl rfl cl_14 (args_cons rfl args0)) (c_rvalid (p := p) w (hL.below hS.below)) ?_; clear hF; rintro _ w ⟨rfl, hS'⟩ a hF
  replace hS : Sat w0 w [.blk g1 [vc, vA, vb], .blk g2 [vX, vY, .int .i64 s.val, .int .i64 s.den]] := hS.comp hS'; clear hS'
  refine ls_val hF (.free rfl) rfl rfl (ex_not rfl rfl) ?_; clear hF a; intro a hF
  refine ls_val hF (.free rfl) rfl rfl (ex_move rfl rfl) ?_; clear hF a; intro a hF
  refine by_slot hF (d := 10) rfl ?_ ?_ <;> clear hF <;> intro hc hF
  ·
   refine ls_off hF (.on rfl rfl rfl rfl rfl) rfl rfl ?_; clear hF a; intro a hF
   refine ls_off hF (.on rfl rfl rfl rfl rfl) rfl rfl ?_; clear hF a; intro a hF
   refine ls_off hF (.on rfl rfl rfl rfl rfl) rfl rfl ?_; clear hF a; intro a hF
   refine ls_val hF (.free rfl) rfl rfl (ex_pick_t rfl rfl rfl) ?_; clear hF a; intro a hF
   refine ls_val hF (.free rfl) rfl rfl (ex_move rfl rfl) ?_; clear hF a; intro a hF
   refine ls_off hF (.on rfl rfl rfl rfl rfl) rfl rfl ?_; clear hF a; intro a hF
   refine ls_off hF (.on rfl rfl rfl rfl rfl) rfl rfl ?_; clear hF a; intro a hF
   refine ls_off hF (.on rfl rfl rfl rfl rfl) rfl rfl ?_; clear hF a; intro a hF
   refine ls_val hF (.free rfl) rfl rfl (ex_pick_t rfl rfl rfl) ?_; clear hF a; intro a hF
   refine ls_val hF (.free rfl) rfl rfl (ex_move rfl rfl) ?_; clear hF a; intro a hF
   refine ls_off hF (.on rfl rfl rfl rfl rfl) rfl rfl ?_; clear hF a; intro a hF
   refine ls_off hF (.on rfl rfl rfl rfl rfl) rfl rfl ?_; clear hF a; intro a hF
   refine ls_off hF (.on rfl rfl rfl rfl rfl) rfl rfl ?_; clear hF a; intro a hF
   refine ls_off hF (.on rfl rfl rfl rfl rfl) rfl rfl ?_; clear hF a; intro a hF
   refine ls_off hF (.on rfl rfl rfl rfl rfl) rfl rfl ?_; clear hF a; intro a hF
   refine ls_off hF (.on rfl rfl rfl rfl rfl) rfl rfl ?_; clear hF a; intro a hF
   refine ls_off hF (.on rfl rfl rfl rfl rfl) rfl rfl ?_; clear hF a; intro a hF
   refine ls_val hF (.free rfl) rfl rfl (ex_pick_t rfl rfl rfl) ?_; clear hF a; intro a hF
   refine ls_val hF (.free rfl) rfl rfl (ex_move rfl rfl) ?_; clear hF a; intro a hF
   refine ls_off hF (.on rfl rfl rfl rfl rfl) rfl rfl ?_; clear hF a; intro a hF
   refine ls_off hF (.on rfl rfl rfl rfl rfl) rfl rfl ?_; clear hF a; intro a hF
   refine ls_off hF (.on rfl rfl rfl rfl rfl) rfl rfl ?_; clear hF a; intro a hF
   refine ls_off hF (.on rfl rfl rfl rfl rfl) rfl rfl ?_; clear hF a; intro a hF
   refine ls_off hF (.on rfl rfl rfl rfl rfl) rfl rfl ?_; clear hF a; intro a hF
   refine ls_off hF (.on rfl rfl rfl rfl rfl) rfl rfl ?_; clear hF a; intro a hF
   refine ls_off hF (.on rfl rfl rfl rfl rfl) rfl rfl ?_; clear hF a; intro a hF
   refine ls_val hF (.free rfl) rfl rfl (ex_pick_t rfl rfl rfl) ?_; clear hF a; intro a hF
   refine ls_val hF (.free rfl) rfl rfl (ex_move rfl rfl) ?_; clear hF a; intro a hF
   refine ls_off hF (.on rfl rfl rfl rfl rfl) rfl rfl ?_; clear hF a; intro a hF
   refine ls_off hF (.on rfl rfl rfl rfl rfl) rfl rfl ?_; clear hF a; intro a hF
   refine ls_off hF (.on rfl rfl rfl rfl rfl) rfl rfl ?_; clear hF a; intro a hF
   refine ls_off hF (.on rfl rfl rfl rfl rfl) rfl rfl ?_; clear hF a; intro a hF
   refine ls_val hF (.free rfl) rfl rfl (ex_pick_t rfl rfl rfl) ?_; clear hF a; intro a hF
   refine ls_val hF (.free rfl) rfl rfl (ex_move rfl rfl) ?_; clear hF a; intro a hF
   refine ls_off hF (.on rfl rfl rfl rfl rfl) rfl rfl ?_; clear hF a; intro a hF
   refine ls_off hF (.on rfl rfl rfl rfl rfl) rfl rfl ?_; clear hF a; intro a hF
   refine ls_off hF (.on rfl rfl rfl rfl rfl) rfl rfl ?_; clear hF a; intro a hF
   refine ls_off hF (.on rfl rfl rfl rfl rfl) rfl rfl ?_; clear hF a; intro a hF
   refine ls_val hF (.free rfl) rfl rfl (ex_pick_t rfl rfl rfl) ?_; clear hF a; intro a hF
   refine ls_val hF (.free rfl) rfl rfl (ex_move rfl rfl) ?_; clear hF a; intro a hF
   refine ls_off hF (.on rfl rfl rfl rfl rfl) rfl rfl ?_; clear hF a; intro a hF
   refine ls_off hF (.on rfl rfl rfl rfl rfl) rfl rfl ?_; clear hF a; intro a hF
   refine ls_off hF (.on rfl rfl rfl rfl rfl) rfl rfl ?_; clear hF a; intro a hF
   refine ls_val hF (.free rfl) rfl rfl (ex_pick_t rfl rfl rfl) ?_; clear hF a; intro a hF
   refine ls_val hF (.free rfl) rfl rfl (ex_move rfl rfl) ?_; clear hF a; intro a hF
   refine ls_off hF (.on rfl rfl rfl rfl rfl) rfl rfl ?_; clear hF a; intro a hF
   refine ls_off hF (.on rfl rfl rfl rfl rfl) rfl rfl ?_; clear hF a; intro a hF
   refine ls_off hF (.on rfl rfl rfl rfl rfl) rfl rfl ?_; clear hF a; intro a hF
   refine ls_val hF (.free rfl) rfl rfl (ex_pick_t rfl rfl rfl) ?_; clear hF a; intro a hF
   refine ls_nil ?_
   refine then_normal ?_
   refine cw_t hF rfl ?_
   refine cw_seq ?_
   refine wp_region_lit ?_
   refine ls_val hF (.free rfl) rfl rfl (ex_assign rfl rfl) ?_; clear hF a; intro a hF
   refine ls_nil ?_
   refine then_normal ?_
   refine wp_ret ?_
   refine then_ret ((fin1 hF rfl rfl ⟨_, rfl, ?_⟩))
   exact ⟨false_B (fun hk => by
    have e1 := hk.d1; have e2 := hk.d2; have e3 := hk.n; have e4 := hk.m; have e5 := hk.cX; have e6 := hk.bY; have e0 := hk.v
    first
    | omega
    | exact absurd hk.ok ‹¬ LOk p›
    | exact absurd (fun k k0 k1 => hk.X k k0 (by omega)) ‹¬ (∀ k, 0 ≤ k → k < s.n → 0 ≤ s.X k ∧ s.X k ≤ 1073741824)›
    | exact absurd (fun k k0 k1 => hk.Y k k0 (by omega)) ‹¬ (∀ k, 0 ≤ k → k < s.m → 0 ≤ s.Y k ∧ s.Y k ≤ 1073741824)›
    | (have e7 := hk.rows i h0 (by omega); have e8 := (hl.rows i h0 (by omega)).1; rw [← e8] at e7; omega)
    | (have e7 := hk.cols j j0 (by omega); rw [wgt_dotp] at e7; omega)
    | (rw [b4] at *; omega)), hS.sub (.cons _ (.cons _ .slnil))⟩
  ·
   refine ls_val hF (.on rfl rfl rfl rfl rfl) rfl rfl (ex_field (b := ⟨g2, 3, none⟩) rfl fd_37_3 rfl rfl) ?_; clear hF a; intro a hF
   refine ls_val hF (.on rfl rfl rfl rfl rfl) rfl rfl (ex_load_blk 1 rfl pl_3 rfl hS rfl rfl) ?_; clear hF a; intro a hF
   refine ls_val hF (.on rfl rfl rfl rfl rfl) rfl rfl (ex_lss rfl rfl rfl) ?_; clear hF a; intro a hF
   refine ls_val hF (.free rfl) rfl rfl (ex_pick_f rfl rfl rfl) ?_; clear hF a; intro a hF
   refine ls_val hF (.free rfl) rfl rfl (ex_move rfl rfl) ?_; clear hF a; intro a hF
   refine by_slot hF (d := 15) rfl ?_ ?_ <;> clear hF <;> intro hc hF
   ·
    refine ls_off hF (.on rfl rfl rfl rfl rfl) rfl rfl ?_; clear hF a; intro a hF
    refine ls_off hF (.on rfl rfl rfl rfl rfl) rfl rfl ?_; clear hF a; intro a hF
    refine ls_off hF (.on rfl rfl rfl rfl rfl) rfl rfl ?_; clear hF a; intro a hF
    refine ls_val hF (.free rfl) rfl rfl (ex_pick_t rfl rfl rfl) ?_; clear hF a; intro a hF
    refine ls_val hF (.free rfl) rfl rfl (ex_move rfl rfl) ?_; clear hF a; intro a hF
    refine ls_off hF (.on rfl rfl rfl rfl rfl) rfl rfl ?_; clear hF a; intro a hF
    refine ls_off hF (.on rfl rfl rfl rfl rfl) rfl rfl ?_; clear hF a; intro a hF
    refine ls_off hF (.on rfl rfl rfl rfl rfl) rfl rfl ?_; clear hF a; intro a hF
    refine ls_off hF (.on rfl rfl rfl rfl rfl) rfl rfl ?_; clear hF a; intro a hF
    refine ls_off hF (.on rfl rfl rfl rfl rfl) rfl rfl ?_; clear hF a; intro a hF
    refine ls_off hF (.on rfl rfl rfl rfl rfl) rfl rfl ?_; clear hF a; intro a hF
    refine ls_off hF (.on rfl rfl rfl rfl rfl) rfl rfl ?_; clear hF a; intro a hF
    refine ls_val hF (.free rfl) rfl rfl (ex_pick_t rfl rfl rfl) ?_; clear hF a; intro a hF
    refine ls_val hF (.free rfl) rfl rfl (ex_move rfl rfl) ?_; clear hF a; intro a hF
    refine ls_off hF (.on rfl rfl rfl rfl rfl) rfl rfl ?_; clear hF a; intro a hF
    refine ls_off hF (.on rfl rfl rfl rfl rfl) rfl rfl ?_; clear hF a; intro a hF
    refine ls_off hF (.on rfl rfl rfl rfl rfl) rfl rfl ?_; clear hF a; intro a hF
    refine ls_off hF (.on rfl rfl rfl rfl rfl) rfl rfl ?_; clear hF a; intro a hF
    refine ls_off hF (.on rfl rfl rfl rfl rfl) rfl rfl ?_; clear hF a; intro a hF
    refine ls_off hF (.on rfl rfl rfl rfl rfl) rfl rfl ?_; clear hF a; intro a hF
    refine ls_off hF (.on rfl rfl rfl rfl rfl) rfl rfl ?_; clear hF a; intro a hF
    refine ls_val hF (.free rfl) rfl rfl (ex_pick_t rfl rfl rfl) ?_; clear hF a; intro a hF
    refine ls_val hF (.free rfl) rfl rfl (ex_move rfl rfl) ?_; clear hF a; intro a hF
    refine ls_off hF (.on rfl rfl rfl rfl rfl) rfl rfl ?_; clear hF a; intro a hF
    refine ls_off hF (.on rfl rfl rfl rfl rfl) rfl rfl ?_; clear hF a; intro a hF
    refine ls_off hF (.on rfl rfl rfl rfl rfl) rfl rfl ?_; clear hF a; intro a hF
    refine ls_off hF (.on rfl rfl rfl rfl rfl) rfl rfl ?_; clear hF a; intro a hF
    refine ls_val hF (.free rfl) rfl rfl (ex_pick_t rfl rfl rfl) ?_; clear hF a; intro a hF
    refine ls_val hF (.free rfl) rfl rfl (ex_move rfl rfl) ?_; clear hF a; intro a hF
    refine ls_off hF (.on rfl rfl rfl rfl rfl) rfl rfl ?_; clear hF a; intro a hF
    refine ls_off hF (.on rfl rfl rfl rfl rfl) rfl rfl ?_; clear hF a; intro a hF
    refine ls_off hF (.on rfl rfl rfl rfl rfl) rfl rfl ?_; clear hF a; intro a hF
    refine ls_off hF (.on rfl rfl rfl rfl rfl) rfl rfl ?_; clear hF a; intro a hF
    refine ls_val hF (.free rfl) rfl rfl (ex_pick_t rfl rfl rfl) ?_; clear hF a; intro a hF
    refine ls_val hF (.free rfl) rfl rfl (ex_move rfl rfl) ?_; clear hF a; intro a hF
    refine ls_off hF (.on rfl rfl rfl rfl rfl) rfl rfl ?_; clear hF a; intro a hF
    refine ls_off hF (.on rfl rfl rfl rfl rfl) rfl rfl ?_; clear hF a; intro a hF
    refine ls_off hF (.on rfl rfl rfl rfl rfl) rfl rfl ?_; clear hF a; intro a hF
    refine ls_val hF (.free rfl) rfl rfl (ex_pick_t rfl rfl rfl) ?_; clear hF a; intro a hF
    refine ls_val hF (.free rfl) rfl rfl (ex_move rfl rfl) ?_; clear hF a; intro a hF
    refine ls_off hF (.on rfl rfl rfl rfl rfl) rfl rfl ?_; clear hF a; intro a hF
    refine ls_off hF (.on rfl rfl rfl rfl rfl) rfl rfl ?_; clear hF a; intro a hF
    refine ls_off hF (.on rfl rfl rfl rfl rfl) rfl rfl ?_; clear hF a; intro a hF
    refine ls_val hF (.free rfl) rfl rfl (ex_pick_t rfl rfl rfl) ?_; clear hF a; intro a hF
    refine ls_nil ?_
    refine then_normal ?_
    refine cw_t hF rfl ?_
    refine cw_seq ?_
    refine wp_region_lit ?_
    refine ls_val hF (.free rfl) rfl rfl (ex_assign rfl rfl) ?_; clear hF a; intro a hF
    refine ls_nil ?_
    refine then_normal ?_
    refine wp_ret ?_
    refine then_ret ((fin1 hF rfl rfl ⟨_, rfl, ?_⟩))
    exact ⟨false_B (fun hk => by
     have e1 := hk.d1; have e2 := hk.d2; have e3 := hk.n; have e4 := hk.m; have e5 := hk.cX; have e6 := hk.bY; have e0 := hk.v
     first
     | omega
     | exact absurd hk.ok ‹¬ LOk p›
     | exact absurd (fun k k0 k1 => hk.X k k0 (by omega)) ‹¬ (∀ k, 0 ≤ k → k < s.n → 0 ≤ s.X k ∧ s.X k ≤ 1073741824)›
     | exact absurd (fun k k0 k1 => hk.Y k k0 (by omega)) ‹¬ (∀ k, 0 ≤ k → k < s.m → 0 ≤ s.Y k ∧ s.Y k ≤ 1073741824)›
     | (have e7 := hk.rows i h0 (by omega); have e8 := (hl.rows i h0 (by omega)).1; rw [← e8] at e7; omega)
     | (have e7 := hk.cols j j0 (by omega); rw [wgt_dotp] at e7; omega)
     | (rw [b4] at *; omega)), hS.sub (.cons _ (.cons _ .slnil))⟩
   ·
    refine ls_val hF (.on rfl rfl rfl rfl rfl) rfl rfl (ex_field (b := ⟨g2, 3, none⟩) rfl fd_37_3 rfl rfl) ?_; clear hF a; intro a hF
    refine ls_val hF (.on rfl rfl rfl rfl rfl) rfl rfl (ex_load_blk 1 rfl pl_3 rfl hS rfl rfl) ?_; clear hF a; intro a hF
    refine ls_val hF (.on rfl rfl rfl rfl rfl) rfl rfl (ex_gtr rfl rfl rfl) ?_; clear hF a; intro a hF
    refine ls_val hF (.free rfl) rfl rfl (ex_pick_f rfl rfl rfl) ?_; clear hF a; intro a hF
    refine ls_val hF (.free rfl) rfl rfl (ex_move rfl rfl) ?_; clear hF a; intro a hF
    refine by_slot hF (d := 20) rfl ?_ ?_ <;> clear hF <;> intro hc hF
    ·
     refine ls_off hF (.on rfl rfl rfl rfl rfl) rfl rfl ?_; clear hF a; intro a hF
     refine ls_off hF (.on rfl rfl rfl rfl rfl) rfl rfl ?_; clear hF a; intro a hF
     refine ls_off hF (.on rfl rfl rfl rfl rfl) rfl rfl ?_; clear hF a; intro a hF
     refine ls_off hF (.on rfl rfl rfl rfl rfl) rfl rfl ?_; clear hF a; intro a hF
     refine ls_off hF (.on rfl rfl rfl rfl rfl) rfl rfl ?_; clear hF a; intro a hF
     refine ls_off hF (.on rfl rfl rfl rfl rfl) rfl rfl ?_; clear hF a; intro a hF
     refine ls_off hF (.on rfl rfl rfl rfl rfl) rfl rfl ?_; clear hF a; intro a hF
     refine ls_val hF (.free rfl) rfl rfl (ex_pick_t rfl rfl rfl) ?_; clear hF a; intro a hF
     refine ls_val hF (.free rfl) rfl rfl (ex_move rfl rfl) ?_; clear hF a; intro a hF
     refine ls_off hF (.on rfl rfl rfl rfl rfl) rfl rfl ?_; clear hF a; intro a hF
     refine ls_off hF (.on rfl rfl rfl rfl rfl) rfl rfl ?_; clear hF a; intro a hF
     refine ls_off hF (.on rfl rfl rfl rfl rfl) rfl rfl ?_; clear hF a; intro a hF
     refine ls_off hF (.on rfl rfl rfl rfl rfl) rfl rfl ?_; clear hF a; intro a hF
     refine ls_off hF (.on rfl rfl rfl rfl rfl) rfl rfl ?_; clear hF a; intro a hF
     refine ls_off hF (.on rfl rfl rfl rfl rfl) rfl rfl ?_; clear hF a; intro a hF
     refine ls_off hF (.on rfl rfl rfl rfl rfl) rfl rfl ?_; clear hF a; intro a hF
     refine ls_val hF (.free rfl) rfl rfl (ex_pick_t rfl rfl rfl) ?_; clear hF a; intro a hF
     refine ls_val hF (.free rfl) rfl rfl (ex_move rfl rfl) ?_; clear hF a; intro a hF
     refine ls_off hF (.on rfl rfl rfl rfl rfl) rfl rfl ?_; clear hF a; intro a hF
     refine ls_off hF (.on rfl rfl rfl rfl rfl) rfl rfl ?_; clear hF a; intro a hF
     refine ls_off hF (.on rfl rfl rfl rfl rfl) rfl rfl ?_; clear hF a; intro a hF
     refine ls_off hF (.on rfl rfl rfl rfl rfl) rfl rfl ?_; clear hF a; intro a hF
     refine ls_val hF (.free rfl) rfl rfl (ex_pick_t rfl rfl rfl) ?_; clear hF a; intro a hF
     refine ls_val hF (.free rfl) rfl rfl (ex_move rfl rfl) ?_; clear hF a; intro a hF
     refine ls_off hF (.on rfl rfl rfl rfl rfl) rfl rfl ?_; clear hF a; intro a hF
     refine ls_off hF (.on rfl rfl rfl rfl rfl) rfl rfl ?_; clear hF a; intro a hF
     refine ls_off hF (.on rfl rfl rfl rfl rfl) rfl rfl ?_; clear hF a; intro a hF
     refine ls_off hF (.on rfl rfl rfl rfl rfl) rfl rfl ?_; clear hF a; intro a hF
     refine ls_val hF (.free rfl) rfl rfl (ex_pick_t rfl rfl rfl) ?_; clear hF a; intro a hF
     refine ls_val hF (.free rfl) rfl rfl (ex_move rfl rfl) ?_; clear hF a; intro a hF
     refine ls_off hF (.on rfl rfl rfl rfl rfl) rfl rfl ?_; clear hF a; intro a hF
     refine ls_off hF (.on rfl rfl rfl rfl rfl) rfl rfl ?_; clear hF a; intro a hF
     refine ls_off hF (.on rfl rfl rfl rfl rfl) rfl rfl ?_; clear hF a; intro a hF
     refine ls_val hF (.free rfl) rfl rfl (ex_pick_t rfl rfl rfl) ?_; clear hF a; intro a hF
     refine ls_val hF (.free rfl) rfl rfl (ex_move rfl rfl) ?_; clear hF a; intro a hF
     refine ls_off hF (.on rfl rfl rfl rfl rfl) rfl rfl ?_; clear hF a; intro a hF
     refine ls_off hF (.on rfl rfl rfl rfl rfl) rfl rfl ?_; clear hF a; intro a hF
     refine ls_off hF (.on rfl rfl rfl rfl rfl) rfl rfl ?_; clear hF a; intro a hF
     refine ls_val hF (.free rfl) rfl rfl (ex_pick_t rfl rfl rfl) ?_; clear hF a; intro a hF
     refine ls_nil ?_
     refine then_normal ?_
     refine cw_t hF rfl ?_
     refine cw_seq ?_
     refine wp_region_lit ?_
     refine ls_val hF (.free rfl) rfl rfl (ex_assign rfl rfl) ?_; clear hF a; intro a hF
     refine ls_nil ?_
     refine then_normal ?_
     refine wp_ret ?_
     refine then_ret ((fin1 hF rfl rfl ⟨_, rfl, ?_⟩))
     exact ⟨false_B (fun hk => by
      have e1 := hk.d1; have e2 := hk.d2; have e3 := hk.n; have e4 := hk.m; have e5 := hk.cX; have e6 := hk.bY; have e0 := hk.v
      first
      | omega
      | exact absurd hk.ok ‹¬ LOk p›
      | exact absurd (fun k k0 k1 => hk.X k k0 (by omega)) ‹¬ (∀ k, 0 ≤ k → k < s.n → 0 ≤ s.X k ∧ s.X k ≤ 1073741824)›
      | exact absurd (fun k k0 k1 => hk.Y k k0 (by omega)) ‹¬ (∀ k, 0 ≤ k → k < s.m → 0 ≤ s.Y k ∧ s.Y k ≤ 1073741824)›
      | (have e7 := hk.rows i h0 (by omega); have e8 := (hl.rows i h0 (by omega)).1; rw [← e8] at e7; omega)
      | (have e7 := hk.cols j j0 (by omega); rw [wgt_dotp] at e7; omega)
      | (rw [b4] at *; omega)), hS.sub (.cons _ (.cons _ .slnil))⟩
    ·
     refine ls_val hF (.on rfl rfl rfl rfl rfl) rfl rfl (ex_field (b := ⟨g2, 0, none⟩) rfl fd_37_0 rfl rfl) ?_; clear hF a; intro a hF
     refine ls_val hF (.on rfl rfl rfl rfl rfl) rfl rfl (ex_load_blk 1 rfl pl_22 rfl hS rfl rfl) ?_; clear hF a; intro a hF
     refine ls_val hF (.on rfl rfl rfl rfl rfl) rfl rfl (ex_len rfl sl_22 rfl hX.slh) ?_; clear hF a; intro a hF
     refine ls_val hF (.on rfl rfl rfl rfl rfl) rfl rfl (ex_field (b := ⟨g1, 0, none⟩) rfl fd_25_0 rfl rfl) ?_; clear hF a; intro a hF
     refine ls_val hF (.on rfl rfl rfl rfl rfl) rfl rfl (ex_load_blk 0 rfl pl_22 rfl hS rfl rfl) ?_; clear hF a; intro a hF
     refine ls_val hF (.on rfl rfl rfl rfl rfl) rfl rfl (ex_len rfl sl_22 rfl hL.c.slh) ?_; clear hF a; intro a hF
     refine ls_val hF (.on rfl rfl rfl rfl rfl) rfl rfl (ex_neq rfl rfl rfl) ?_; clear hF a; intro a hF
     refine ls_val hF (.free rfl) rfl rfl (ex_pick_f rfl rfl rfl) ?_; clear hF a; intro a hF
     refine ls_val hF (.free rfl) rfl rfl (ex_move rfl rfl) ?_; clear hF a; intro a hF
     refine by_slot hF (d := 29) rfl ?_ ?_ <;> clear hF <;> intro hc hF
     ·
      refine ls_off hF (.on rfl rfl rfl rfl rfl) rfl rfl ?_; clear hF a; intro a hF
      refine ls_off hF (.on rfl rfl rfl rfl rfl) rfl rfl ?_; clear hF a; intro a hF
      refine ls_off hF (.on rfl rfl rfl rfl rfl) rfl rfl ?_; clear hF a; intro a hF
      refine ls_off hF (.on rfl rfl rfl rfl rfl) rfl rfl ?_; clear hF a; intro a hF
      refine ls_off hF (.on rfl rfl rfl rfl rfl) rfl rfl ?_; clear hF a; intro a hF
      refine ls_off hF (.on rfl rfl rfl rfl rfl) rfl rfl ?_; clear hF a; intro a hF
      refine ls_off hF (.on rfl rfl rfl rfl rfl) rfl rfl ?_; clear hF a; intro a hF
      refine ls_val hF (.free rfl) rfl rfl (ex_pick_t rfl rfl rfl) ?_; clear hF a; intro a hF
      refine ls_val hF (.free rfl) rfl rfl (ex_move rfl rfl) ?_; clear hF a; intro a hF
      refine ls_off hF (.on rfl rfl rfl rfl rfl) rfl rfl ?_; clear hF a; intro a hF
      refine ls_off hF (.on rfl rfl rfl rfl rfl) rfl rfl ?_; clear hF a; intro a hF
      refine ls_off hF (.on rfl rfl rfl rfl rfl) rfl rfl ?_; clear hF a; intro a hF
      refine ls_off hF (.on rfl rfl rfl rfl rfl) rfl rfl ?_; clear hF a; intro a hF
      refine ls_val hF (.free rfl) rfl rfl (ex_pick_t rfl rfl rfl) ?_; clear hF a; intro a hF
      refine ls_val hF (.free rfl) rfl rfl (ex_move rfl rfl) ?_; clear hF a; intro a hF
      refine ls_off hF (.on rfl rfl rfl rfl rfl) rfl rfl ?_; clear hF a; intro a hF
      refine ls_off hF (.on rfl rfl rfl rfl rfl) rfl rfl ?_; clear hF a; intro a hF
      refine ls_off hF (.on rfl rfl rfl rfl rfl) rfl rfl ?_; clear hF a; intro a hF
      refine ls_off hF (.on rfl rfl rfl rfl rfl) rfl rfl ?_; clear hF a; intro a hF
      refine ls_val hF (.free rfl) rfl rfl (ex_pick_t rfl rfl rfl) ?_; clear hF a; intro a hF
      refine ls_val hF (.free rfl) rfl rfl (ex_move rfl rfl) ?_; clear hF a; intro a hF
      refine ls_off hF (.on rfl rfl rfl rfl rfl) rfl rfl ?_; clear hF a; intro a hF
      refine ls_off hF (.on rfl rfl rfl rfl rfl) rfl rfl ?_; clear hF a; intro a hF
      refine ls_off hF (.on rfl rfl rfl rfl rfl) rfl rfl ?_; clear hF a; intro a hF
      refine ls_val hF (.free rfl) rfl rfl (ex_pick_t rfl rfl rfl) ?_; clear hF a; intro a hF
      refine ls_val hF (.free rfl) rfl rfl (ex_move rfl rfl) ?_; clear hF a; intro a hF
      refine ls_off hF (.on rfl rfl rfl rfl rfl) rfl rfl ?_; clear hF a; intro a hF
      refine ls_off hF (.on rfl rfl rfl rfl rfl) rfl rfl ?_; clear hF a; intro a hF
      refine ls_off hF (.on rfl rfl rfl rfl rfl) rfl rfl ?_; clear hF a; intro a hF
      refine ls_val hF (.free rfl) rfl rfl (ex_pick_t rfl rfl rfl) ?_; clear hF a; intro a hF
      refine ls_nil ?_
      refine then_normal ?_
      refine cw_t hF rfl ?_
      refine cw_seq ?_
      refine wp_region_lit ?_
      refine ls_val hF (.free rfl) rfl rfl (ex_assign rfl rfl) ?_; clear hF a; intro a hF
      refine ls_nil ?_
      refine then_normal ?_
      refine wp_ret ?_
      refine then_ret ((fin1 hF rfl rfl ⟨_, rfl, ?_⟩))
      exact ⟨false_B (fun hk => by
       have e1 := hk.d1; have e2 := hk.d2; have e3 := hk.n; have e4 := hk.m; have e5 := hk.cX; have e6 := hk.bY; have e0 := hk.v
       first
       | omega
       | exact absurd hk.ok ‹¬ LOk p›
       | exact absurd (fun k k0 k1 => hk.X k k0 (by omega)) ‹¬ (∀ k, 0 ≤ k → k < s.n → 0 ≤ s.X k ∧ s.X k ≤ 1073741824)›
       | exact absurd (fun k k0 k1 => hk.Y k k0 (by omega)) ‹¬ (∀ k, 0 ≤ k → k < s.m → 0 ≤ s.Y k ∧ s.Y k ≤ 1073741824)›
       | (have e7 := hk.rows i h0 (by omega); have e8 := (hl.rows i h0 (by omega)).1; rw [← e8] at e7; omega)
       | (have e7 := hk.cols j j0 (by omega); rw [wgt_dotp] at e7; omega)
       | (rw [b4] at *; omega)), hS.sub (.cons _ (.cons _ .slnil))⟩
     ·
      refine ls_val hF (.on rfl rfl rfl rfl rfl) rfl rfl (ex_field (b := ⟨g2, 1, none⟩) rfl fd_37_1 rfl rfl) ?_; clear hF a; intro a hF
      refine ls_val hF (.on rfl rfl rfl rfl rfl) rfl rfl (ex_load_blk 1 rfl pl_22 rfl hS rfl rfl) ?_; clear hF a; intro a hF
      refine ls_val hF (.on rfl rfl rfl rfl rfl) rfl rfl (ex_len rfl sl_22 rfl hY.slh) ?_; clear hF a; intro a hF
      refine ls_val hF (.on rfl rfl rfl rfl rfl) rfl rfl (ex_field (b := ⟨g1, 1, none⟩) rfl fd_25_1 rfl rfl) ?_; clear hF a; intro a hF
      refine ls_val hF (.on rfl rfl rfl rfl rfl) rfl rfl (ex_load_blk 0 rfl pl_23 rfl hS rfl rfl) ?_; clear hF a; intro a hF
      refine ls_val hF (.on rfl rfl rfl rfl rfl) rfl rfl (ex_len rfl sl_23 rfl hL.A.row.slh) ?_; clear hF a; intro a hF
      refine ls_val hF (.on rfl rfl rfl rfl rfl) rfl rfl (ex_neq rfl rfl rfl) ?_; clear hF a; intro a hF
      refine ls_val hF (.free rfl) rfl rfl (ex_pick_f rfl rfl rfl) ?_; clear hF a; intro a hF
      refine ls_val hF (.free rfl) rfl rfl (ex_move rfl rfl) ?_; clear hF a; intro a hF
      refine by_slot hF (d := 38) rfl ?_ ?_ <;> clear hF <;> intro hc hF
      ·
       refine ls_off hF (.on rfl rfl rfl rfl rfl) rfl rfl ?_; clear hF a; intro a hF
       refine ls_off hF (.on rfl rfl rfl rfl rfl) rfl rfl ?_; clear hF a; intro a hF
       refine ls_off hF (.on rfl rfl rfl rfl rfl) rfl rfl ?_; clear hF a; intro a hF
       refine ls_off hF (.on rfl rfl rfl rfl rfl) rfl rfl ?_; clear hF a; intro a hF
       refine ls_val hF (.free rfl) rfl rfl (ex_pick_t rfl rfl rfl) ?_; clear hF a; intro a hF
       refine ls_val hF (.free rfl) rfl rfl (ex_move rfl rfl) ?_; clear hF a; intro a hF
       refine ls_off hF (.on rfl rfl rfl rfl rfl) rfl rfl ?_; clear hF a; intro a hF
       refine ls_off hF (.on rfl rfl rfl rfl rfl) rfl rfl ?_; clear hF a; intro a hF
       refine ls_off hF (.on rfl rfl rfl rfl rfl) rfl rfl ?_; clear hF a; intro a hF
       refine ls_off hF (.on rfl rfl rfl rfl rfl) rfl rfl ?_; clear hF a; intro a hF
       refine ls_val hF (.free rfl) rfl rfl (ex_pick_t rfl rfl rfl) ?_; clear hF a; intro a hF
       refine ls_val hF (.free rfl) rfl rfl (ex_move rfl rfl) ?_; clear hF a; intro a hF
       refine ls_off hF (.on rfl rfl rfl rfl rfl) rfl rfl ?_; clear hF a; intro a hF
       refine ls_off hF (.on rfl rfl rfl rfl rfl) rfl rfl ?_; clear hF a; intro a hF
       refine ls_off hF (.on rfl rfl rfl rfl rfl) rfl rfl ?_; clear hF a; intro a hF
       refine ls_val hF (.free rfl) rfl rfl (ex_pick_t rfl rfl rfl) ?_; clear hF a; intro a hF
       refine ls_val hF (.free rfl) rfl rfl (ex_move rfl rfl) ?_; clear hF a; intro a hF
       refine ls_off hF (.on rfl rfl rfl rfl rfl) rfl rfl ?_; clear hF a; intro a hF
       refine ls_off hF (.on rfl rfl rfl rfl rfl) rfl rfl ?_; clear hF a; intro a hF
       refine ls_off hF (.on rfl rfl rfl rfl rfl) rfl rfl ?_; clear hF a; intro a hF
       refine ls_val hF (.free rfl) rfl rfl (ex_pick_t rfl rfl rfl) ?_; clear hF a; intro a hF
       refine ls_nil ?_
       refine then_normal ?_
       refine cw_t hF rfl ?_
       refine cw_seq ?_
       refine wp_region_lit ?_
       refine ls_val hF (.free rfl) rfl rfl (ex_assign rfl rfl) ?_; clear hF a; intro a hF
       refine ls_nil ?_
       refine then_normal ?_
       refine wp_ret ?_
       refine then_ret ((fin1 hF rfl rfl ⟨_, rfl, ?_⟩))
       exact ⟨false_B (fun hk => by
        have e1 := hk.d1; have e2 := hk.d2; have e3 := hk.n; have e4 := hk.m; have e5 := hk.cX; have e6 := hk.bY; have e0 := hk.v
        first
        | omega
        | exact absurd hk.ok ‹¬ LOk p›
        | exact absurd (fun k k0 k1 => hk.X k k0 (by omega)) ‹¬ (∀ k, 0 ≤ k → k < s.n → 0 ≤ s.X k ∧ s.X k ≤ 1073741824)›
        | exact absurd (fun k k0 k1 => hk.Y k k0 (by omega)) ‹¬ (∀ k, 0 ≤ k → k < s.m → 0 ≤ s.Y k ∧ s.Y k ≤ 1073741824)›
        | (have e7 := hk.rows i h0 (by omega); have e8 := (hl.rows i h0 (by omega)).1; rw [← e8] at e7; omega)
        | (have e7 := hk.cols j j0 (by omega); rw [wgt_dotp] at e7; omega)
        | (rw [b4] at *; omega)), hS.sub (.cons _ (.cons _ .slnil))⟩
      ·
       refine ls_val hF (.on rfl rfl rfl rfl rfl) rfl rfl (ex_field (b := ⟨g2, 0, none⟩) rfl fd_37_0 rfl rfl) ?_; clear hF a; intro a hF
       refine ls_val hF (.on rfl rfl rfl rfl rfl) rfl rfl (ex_load_blk 1 rfl pl_22 rfl hS rfl rfl) ?_; clear hF a; intro a hF
       refine ls_call hF (.on rfl rfl rfl rfl rfl) rfl rfl (ex_call0 rfl rfl cl_39 (args_cons rfl (args_cons rfl (args_cons rfl args0)))) (c_within (n := s.n) (lo := 0) (hi := 1073741824) (f := s.X) w (hX.below hS.below)) ?_; clear hF; rintro _ w ⟨rfl, hS'⟩ a hF
       replace hS : Sat w0 w [.blk g1 [vc, vA, vb], .blk g2 [vX, vY, .int .i64 s.val, .int .i64 s.den]] := hS.comp hS'; clear hS'
       refine ls_val hF (.on rfl rfl rfl rfl rfl) rfl rfl (ex_not rfl rfl) ?_; clear hF a; intro a hF
       refine ls_val hF (.free rfl) rfl rfl (ex_pick_f rfl rfl rfl) ?_; clear hF a; intro a hF
       refine ls_val hF (.free rfl) rfl rfl (ex_move rfl rfl) ?_; clear hF a; intro a hF
       refine by_slot hF (d := 44) rfl ?_ ?_ <;> clear hF <;> intro hc hF
       ·
        refine ls_off hF (.on rfl rfl rfl rfl rfl) rfl rfl ?_; clear hF a; intro a hF
        refine ls_off hF (.on rfl rfl rfl rfl rfl) rfl rfl ?_; clear hF a; intro a hF
        refine ls_off hF (.on rfl rfl rfl rfl rfl) rfl rfl ?_; clear hF a; intro a hF
        refine ls_off hF (.on rfl rfl rfl rfl rfl) rfl rfl ?_; clear hF a; intro a hF
        refine ls_val hF (.free rfl) rfl rfl (ex_pick_t rfl rfl rfl) ?_; clear hF a; intro a hF
        refine ls_val hF (.free rfl) rfl rfl (ex_move rfl rfl) ?_; clear hF a; intro a hF
        refine ls_off hF (.on rfl rfl rfl rfl rfl) rfl rfl ?_; clear hF a; intro a hF
        refine ls_off hF (.on rfl rfl rfl rfl rfl) rfl rfl ?_; clear hF a; intro a hF
        refine ls_off hF (.on rfl rfl rfl rfl rfl) rfl rfl ?_; clear hF a; intro a hF
        refine ls_val hF (.free rfl) rfl rfl (ex_pick_t rfl rfl rfl) ?_; clear hF a; intro a hF
        refine ls_val hF (.free rfl) rfl rfl (ex_move rfl rfl) ?_; clear hF a; intro a hF
        refine ls_off hF (.on rfl rfl rfl rfl rfl) rfl rfl ?_; clear hF a; intro a hF
        refine ls_off hF (.on rfl rfl rfl rfl rfl) rfl rfl ?_; clear hF a; intro a hF
        refine ls_off hF (.on rfl rfl rfl rfl rfl) rfl rfl ?_; clear hF a; intro a hF
        refine ls_val hF (.free rfl) rfl rfl (ex_pick_t rfl rfl rfl) ?_; clear hF a; intro a hF
        refine ls_nil ?_
        refine then_normal ?_
        refine cw_t hF rfl ?_
        refine cw_seq ?_
        refine wp_region_lit ?_
        refine ls_val hF (.free rfl) rfl rfl (ex_assign rfl rfl) ?_; clear hF a; intro a hF
        refine ls_nil ?_
        refine then_normal ?_
        refine wp_ret ?_
        refine then_ret ((fin1 hF rfl rfl ⟨_, rfl, ?_⟩))
        exact ⟨false_B (fun hk => by
         have e1 := hk.d1; have e2 := hk.d2; have e3 := hk.n; have e4 := hk.m; have e5 := hk.cX; have e6 := hk.bY; have e0 := hk.v
         first
         | omega
         | exact absurd hk.ok ‹¬ LOk p›
         | exact absurd (fun k k0 k1 => hk.X k k0 (by omega)) ‹¬ (∀ k, 0 ≤ k → k < s.n → 0 ≤ s.X k ∧ s.X k ≤ 1073741824)›
         | exact absurd (fun k k0 k1 => hk.Y k k0 (by omega)) ‹¬ (∀ k, 0 ≤ k → k < s.m → 0 ≤ s.Y k ∧ s.Y k ≤ 1073741824)›
         | (have e7 := hk.rows i h0 (by omega); have e8 := (hl.rows i h0 (by omega)).1; rw [← e8] at e7; omega)
         | (have e7 := hk.cols j j0 (by omega); rw [wgt_dotp] at e7; omega)
         | (rw [b4] at *; omega)), hS.sub (.cons _ (.cons _ .slnil))⟩
       ·
        refine ls_val hF (.on rfl rfl rfl rfl rfl) rfl rfl (ex_field (b := ⟨g2, 1, none⟩) rfl fd_37_1 rfl rfl) ?_; clear hF a; intro a hF
        refine ls_val hF (.on rfl rfl rfl rfl rfl) rfl rfl (ex_load_blk 1 rfl pl_22 rfl hS rfl rfl) ?_; clear hF a; intro a hF
        refine ls_call hF (.on rfl rfl rfl rfl rfl) rfl rfl (ex_call0 rfl rfl cl_39 (args_cons rfl (args_cons rfl (args_cons rfl args0)))) (c_within (n := s.m) (lo := 0) (hi := 1073741824) (f := s.Y) w (hY.below hS.below)) ?_; clear hF; rintro _ w ⟨rfl, hS'⟩ a hF
        replace hS : Sat w0 w [.blk g1 [vc, vA, vb], .blk g2 [vX, vY, .int .i64 s.val, .int .i64 s.den]] := hS.comp hS'; clear hS'
        refine ls_val hF (.on rfl rfl rfl rfl rfl) rfl rfl (ex_not rfl rfl) ?_; clear hF a; intro a hF
        refine ls_val hF (.free rfl) rfl rfl (ex_pick_f rfl rfl rfl) ?_; clear hF a; intro a hF
        refine ls_val hF (.free rfl) rfl rfl (ex_move rfl rfl) ?_; clear hF a; intro a hF
        refine by_slot hF (d := 50) rfl ?_ ?_ <;> clear hF <;> intro hc hF
        ·
         refine ls_off hF (.on rfl rfl rfl rfl rfl) rfl rfl ?_; clear hF a; intro a hF
         refine ls_off hF (.on rfl rfl rfl rfl rfl) rfl rfl ?_; clear hF a; intro a hF
         refine ls_off hF (.on rfl rfl rfl rfl rfl) rfl rfl ?_; clear hF a; intro a hF
         refine ls_val hF (.free rfl) rfl rfl (ex_pick_t rfl rfl rfl) ?_; clear hF a; intro a hF
         refine ls_val hF (.free rfl) rfl rfl (ex_move rfl rfl) ?_; clear hF a; intro a hF
         refine ls_off hF (.on rfl rfl rfl rfl rfl) rfl rfl ?_; clear hF a; intro a hF
         refine ls_off hF (.on rfl rfl rfl rfl rfl) rfl rfl ?_; clear hF a; intro a hF
         refine ls_off hF (.on rfl rfl rfl rfl rfl) rfl rfl ?_; clear hF a; intro a hF
         refine ls_val hF (.free rfl) rfl rfl (ex_pick_t rfl rfl rfl) ?_; clear hF a; intro a hF
         refine ls_nil ?_
         refine then_normal ?_
         refine cw_t hF rfl ?_
         refine cw_seq ?_
         refine wp_region_lit ?_
         refine ls_val hF (.free rfl) rfl rfl (ex_assign rfl rfl) ?_; clear hF a; intro a hF
         refine ls_nil ?_
         refine then_normal ?_
         refine wp_ret ?_
         refine then_ret ((fin1 hF rfl rfl ⟨_, rfl, ?_⟩))
         exact ⟨false_B (fun hk => by
          have e1 := hk.d1; have e2 := hk.d2; have e3 := hk.n; have e4 := hk.m; have e5 := hk.cX; have e6 := hk.bY; have e0 := hk.v
          first
          | omega
          | exact absurd hk.ok ‹¬ LOk p›
          | exact absurd (fun k k0 k1 => hk.X k k0 (by omega)) ‹¬ (∀ k, 0 ≤ k → k < s.n → 0 ≤ s.X k ∧ s.X k ≤ 1073741824)›
          | exact absurd (fun k k0 k1 => hk.Y k k0 (by omega)) ‹¬ (∀ k, 0 ≤ k → k < s.m → 0 ≤ s.Y k ∧ s.Y k ≤ 1073741824)›
          | (have e7 := hk.rows i h0 (by omega); have e8 := (hl.rows i h0 (by omega)).1; rw [← e8] at e7; omega)
          | (have e7 := hk.cols j j0 (by omega); rw [wgt_dotp] at e7; omega)
          | (rw [b4] at *; omega)), hS.sub (.cons _ (.cons _ .slnil))⟩
        ·
         refine ls_val hF (.on rfl rfl rfl rfl rfl) rfl rfl (ex_field (b := ⟨g2, 2, none⟩) rfl fd_37_2 rfl rfl) ?_; clear hF a; intro a hF
         refine ls_val hF (.on rfl rfl rfl rfl rfl) rfl rfl (ex_load_blk 1 rfl pl_3 rfl hS rfl rfl) ?_; clear hF a; intro a hF
         refine ls_val hF (.on rfl rfl rfl rfl rfl) rfl rfl (ex_lss rfl rfl rfl) ?_; clear hF a; intro a hF
         refine ls_val hF (.free rfl) rfl rfl (ex_pick_f rfl rfl rfl) ?_; clear hF a; intro a hF
         refine ls_val hF (.free rfl) rfl rfl (ex_move rfl rfl) ?_; clear hF a; intro a hF
         refine by_slot hF (d := 55) rfl ?_ ?_ <;> clear hF <;> intro hc hF
         ·
          refine ls_off hF (.on rfl rfl rfl rfl rfl) rfl rfl ?_; clear hF a; intro a hF
          refine ls_off hF (.on rfl rfl rfl rfl rfl) rfl rfl ?_; clear hF a; intro a hF
          refine ls_off hF (.on rfl rfl rfl rfl rfl) rfl rfl ?_; clear hF a; intro a hF
          refine ls_val hF (.free rfl) rfl rfl (ex_pick_t rfl rfl rfl) ?_; clear hF a; intro a hF
          refine ls_nil ?_
          refine then_normal ?_
          refine cw_t hF rfl ?_
          refine cw_seq ?_
          refine wp_region_lit ?_
          refine ls_val hF (.free rfl) rfl rfl (ex_assign rfl rfl) ?_; clear hF a; intro a hF
          refine ls_nil ?_
          refine then_normal ?_
          refine wp_ret ?_
          refine then_ret ((fin1 hF rfl rfl ⟨_, rfl, ?_⟩))
          exact ⟨false_B (fun hk => by
           have e1 := hk.d1; have e2 := hk.d2; have e3 := hk.n; have e4 := hk.m; have e5 := hk.cX; have e6 := hk.bY; have e0 := hk.v
           first
           | omega
           | exact absurd hk.ok ‹¬ LOk p›
           | exact absurd (fun k k0 k1 => hk.X k k0 (by omega)) ‹¬ (∀ k, 0 ≤ k → k < s.n → 0 ≤ s.X k ∧ s.X k ≤ 1073741824)›
           | exact absurd (fun k k0 k1 => hk.Y k k0 (by omega)) ‹¬ (∀ k, 0 ≤ k → k < s.m → 0 ≤ s.Y k ∧ s.Y k ≤ 1073741824)›
           | (have e7 := hk.rows i h0 (by omega); have e8 := (hl.rows i h0 (by omega)).1; rw [← e8] at e7; omega)
           | (have e7 := hk.cols j j0 (by omega); rw [wgt_dotp] at e7; omega)
           | (rw [b4] at *; omega)), hS.sub (.cons _ (.cons _ .slnil))⟩
         ·
          refine ls_val hF (.on rfl rfl rfl rfl rfl) rfl rfl (ex_field (b := ⟨g2, 2, none⟩) rfl fd_37_2 rfl rfl) ?_; clear hF a; intro a hF
          refine ls_val hF (.on rfl rfl rfl rfl rfl) rfl rfl (ex_load_blk 1 rfl pl_3 rfl hS rfl rfl) ?_; clear hF a; intro a hF
          refine ls_val hF (.on rfl rfl rfl rfl rfl) rfl rfl (ex_gtr rfl rfl rfl) ?_; clear hF a; intro a hF
          refine ls_val hF (.free rfl) rfl rfl (ex_pick_f rfl rfl rfl) ?_; clear hF a; intro a hF
          refine ls_nil ?_
          refine then_normal ?_
          refine cw_if hF rfl (fun hc => ?_) (fun hc => ?_)
          ·
           refine cw_seq ?_
           refine wp_region_lit ?_
           refine ls_val hF (.free rfl) rfl rfl (ex_assign rfl rfl) ?_; clear hF a; intro a hF
           refine ls_nil ?_
           refine then_normal ?_
           refine wp_ret ?_
           refine then_ret ((fin1 hF rfl rfl ⟨_, rfl, ?_⟩))
           exact ⟨false_B (fun hk => by
            have e1 := hk.d1; have e2 := hk.d2; have e3 := hk.n; have e4 := hk.m; have e5 := hk.cX; have e6 := hk.bY; have e0 := hk.v
            first
            | omega
            | exact absurd hk.ok ‹¬ LOk p›
            | exact absurd (fun k k0 k1 => hk.X k k0 (by omega)) ‹¬ (∀ k, 0 ≤ k → k < s.n → 0 ≤ s.X k ∧ s.X k ≤ 1073741824)›
            | exact absurd (fun k k0 k1 => hk.Y k k0 (by omega)) ‹¬ (∀ k, 0 ≤ k → k < s.m → 0 ≤ s.Y k ∧ s.Y k ≤ 1073741824)›
            | (have e7 := hk.rows i h0 (by omega); have e8 := (hl.rows i h0 (by omega)).1; rw [← e8] at e7; omega)
            | (have e7 := hk.cols j j0 (by omega); rw [wgt_dotp] at e7; omega)
            | (rw [b4] at *; omega)), hS.sub (.cons _ (.cons _ .slnil))⟩
          ·
           refine wp_skip ?_
           refine then_normal ?_
           refine cw_seq ?_
           refine cw_seq ?_
           refine wp_region_lit ?_
           refine ls_val hF (.free rfl) rfl rfl (ex_assign rfl rfl) ?_; clear hF a; intro a hF
           refine ls_nil ?_
           refine then_normal ?_
           refine wp_block ?_
           have hl : LOk p := by first | assumption | exact Classical.not_not.1 ‹¬ ¬ (LOk p)›
           have b1 := hl.n1
           have b2 := hl.n2
           have b3 := hl.m2
           have b4 := hl.k
           have hwx : ∀ k, 0 ≤ k → k < s.n → 0 ≤ s.X k ∧ s.X k ≤ 1073741824 := by first | assumption | exact Classical.not_not.1 ‹¬ ¬ (∀ k, 0 ≤ k → k < s.n → 0 ≤ s.X k ∧ s.X k ≤ 1073741824)›
           have hwy : ∀ k, 0 ≤ k → k < s.m → 0 ≤ s.Y k ∧ s.Y k ≤ 1073741824 := by first | assumption | exact Classical.not_not.1 ‹¬ ¬ (∀ k, 0 ≤ k → k < s.m → 0 ≤ s.Y k ∧ s.Y k ≤ 1073741824)›
           have hsn : s.n = p.n := by omega
           have hsm : s.m = p.m := by omega
           have hvv : -1073741824 ≤ s.val ∧ s.val ≤ 1073741824 := by omega
           have hpx : ∀ k, 0 ≤ k → k < p.n → 0 ≤ s.X k ∧ s.X k ≤ 1073741824 := fun k k0 k1 => hwx k k0 (by omega)
           have hpy : ∀ k, 0 ≤ k → k < p.m → 0 ≤ s.Y k ∧ s.Y k ≤ 1073741824 := fun k k0 k1 => hwy k k0 (by omega)
           refine cw_loop (fun mm a w => ∃ (i : Int), mm = ((p.m - i).toNat) ∧ (0 ≤ i) ∧ (i ≤ p.m) ∧ (∀ k, 0 ≤ k → k < i → p.b k * s.den ≤ dotp (p.A k) s.X p.n.toNat) ∧ Fr a 124 [(2, .pointer (some ⟨g1, 0, none⟩)), (3, .pointer (some ⟨g2, 0, none⟩)), (5, .int .i64 i)] ∧ Sat w0 w [.blk g1 [vc, vA, vb], .blk g2 [vX, vY, .int .i64 s.val, .int .i64 s.den]]) ?_ ?_ (m := ((p.m - 0).toNat))
           ·
            refine ⟨0, rfl, (by omega), (by omega), ?_, (hF.pick (hF.pick (hF.pick hF.nil 5 rfl) 3 rfl) 2 rfl), hS⟩
            ·
             intro k k0 k1; omega
           ·
            clear hF hS a w
            rintro mm a w ⟨i, rfl, h0, h1, hrw, hF, hS⟩
            refine cw_seq ?_
            refine cw_seq ?_
            refine wp_region_lit ?_
            refine ls_val hF (.free rfl) rfl rfl (ex_move rfl rfl) ?_; clear hF a; intro a hF
            refine ls_val hF (.free rfl) rfl rfl (ex_field (b := ⟨g1, 1, none⟩) rfl fd_25_1 rfl rfl) ?_; clear hF a; intro a hF
            refine ls_val hF (.free rfl) rfl rfl (ex_load_blk 0 rfl pl_23 rfl hS rfl rfl) ?_; clear hF a; intro a hF
            refine ls_val hF (.free rfl) rfl rfl (ex_len rfl sl_23 rfl hL.A.row.slh) ?_; clear hF a; intro a hF
            refine ls_val hF (.free rfl) rfl rfl (ex_lss rfl rfl rfl) ?_; clear hF a; intro a hF
            refine ls_nil ?_
            refine then_normal ?_
            refine cw_if hF rfl (fun hc => ?_) (fun hc => ?_)
            ·
             refine wp_skip ?_
             refine then_normal ?_
             refine cw_seq ?_
             refine wp_block ?_
             refine cw_seq ?_
             refine dr_sat (m0 := [.blk g1 [vc, vA, vb], .blk g2 [vX, vY, .int .i64 s.val, .int .i64 s.den]]) (m1 := [.blk g1 [vc, vA, vb], .blk g2 [vX, vY, .int .i64 s.val, .int .i64 s.den]]) 1000 mx_ hS (.cons_cons _ (.cons_cons _ .slnil)) (.cons_cons _ (.cons_cons _ .slnil)) rfl ?_; clear hS; intro w hS hcl hB
             refine dr_val hF hcl hB 0 rfl (.free rfl) rfl rfl (by kernel_rfl) rfl (fun w => (ex_field (b := ⟨g1, 1, none⟩) rfl fd_25_1 rfl rfl)) ?_; clear hF a hcl hB; intro a hF hcl hB
             refine dr_loadA hF hcl hB 1 rfl (.free rfl) rfl rfl (by kernel_rfl) rfl (fun w hS => (ex_load_blk 0 rfl pl_23 rfl hS rfl rfl)) ?_; clear hF a hcl hB; intro a hF hcl hB
             refine dr_val hF hcl hB 2 rfl (.free rfl) rfl rfl (by kernel_rfl) rfl (fun w => (ex_move rfl rfl)) ?_; clear hF a hcl hB; intro a hF hcl hB
             refine dr_val hF hcl hB 3 rfl (.free rfl) rfl rfl (by kernel_rfl) rfl (fun w => (ex_index (k := i) rfl sl_23 rfl rfl hL.A.row.slh (by omega) (by omega) (by omega))) ?_; clear hF a hcl hB; intro a hF hcl hB
             refine dr_loadA hF hcl hB 4 rfl (.free rfl) rfl rfl (by kernel_rfl) rfl (fun w hS => (ex_load_row (u := (vq i)) rfl pl_22 rfl (hL.A.row.below hS.below) (by omega) (by omega) rfl)) ?_; clear hF a hcl hB; intro a hF hcl hB
             refine dr_val hF hcl hB 5 rfl (.free rfl) rfl rfl (by kernel_rfl) rfl (fun w => (ex_field (b := ⟨g2, 0, none⟩) rfl fd_37_0 rfl rfl)) ?_; clear hF a hcl hB; intro a hF hcl hB
             refine dr_loadA hF hcl hB 6 rfl (.free rfl) rfl rfl (by kernel_rfl) rfl (fun w hS => (ex_load_blk 1 rfl pl_22 rfl hS rfl rfl)) ?_; clear hF a hcl hB; intro a hF hcl hB
             refine dr_val hF hcl hB 8 rfl (.free rfl) rfl rfl (by kernel_rfl) rfl (fun w => (ex_field (b := ⟨g1, 2, none⟩) rfl fd_25_2 rfl rfl)) ?_; clear hF a hcl hB; intro a hF hcl hB
             refine dr_loadA hF hcl hB 9 rfl (.free rfl) rfl rfl (by kernel_rfl) rfl (fun w hS => (ex_load_blk 0 rfl pl_22 rfl hS rfl rfl)) ?_; clear hF a hcl hB; intro a hF hcl hB
             refine dr_val hF hcl hB 10 rfl (.free rfl) rfl rfl (by kernel_rfl) rfl (fun w => (ex_move rfl rfl)) ?_; clear hF a hcl hB; intro a hF hcl hB
             refine dr_val hF hcl hB 11 rfl (.free rfl) rfl rfl (by kernel_rfl) rfl (fun w => (ex_index (k := i) rfl sl_22 rfl rfl hL.b.slh (by omega) (by omega) (by omega))) ?_; clear hF a hcl hB; intro a hF hcl hB
             refine dr_loadA hF hcl hB 12 rfl (.free rfl) rfl rfl (by kernel_rfl) rfl (fun w hS => (ex_load_row (u := .int .i64 (p.b i)) rfl pl_3 rfl (hL.b.below hS.below) (by omega) (by omega) rfl)) ?_; clear hF a hcl hB; intro a hF hcl hB
             refine dr_val hF hcl hB 13 rfl (.free rfl) rfl rfl (by kernel_rfl) rfl (fun w => (ex_field (b := ⟨g2, 3, none⟩) rfl fd_37_3 rfl rfl)) ?_; clear hF a hcl hB; intro a hF hcl hB
             refine dr_loadA hF hcl hB 14 rfl (.free rfl) rfl rfl (by kernel_rfl) rfl (fun w hS => (ex_load_blk 1 rfl pl_3 rfl hS rfl rfl)) ?_; clear hF a hcl hB; intro a hF hcl hB
             have hri := (hl.rows i h0 (by omega)).1; have hmu := mul_abs (hl.b i h0 (by omega)) (show -1073741824 ≤ s.den ∧ s.den ≤ 1073741824 by omega)
             refine dr_val hF hcl hB 15 rfl (.free rfl) rfl rfl (by kernel_rfl) rfl (fun w => (ex_mul (r := ((p.b i) * s.den)) rfl rfl rfl rfl (by unfold I64; omega))) ?_; clear hF a hcl hB; intro a hF hcl hB
             refine dr_call hF hcl 7 rfl (.free rfl) rfl rfl (by kernel_rfl) (ex_call0 rfl rfl cl_41 (args_cons rfl (args_cons rfl args0))) (c_dot (n := (p.ln i)) (f := (p.A i)) (m := s.n) (g := s.X) w ((hL.A.p i (by omega) (by omega)).below hS.below) (hX.below hS.below) (by omega) (by omega) (fun k k0 k1 => (hl.rows i h0 (by omega)).2 k k0 (by omega)) (fun k k0 k1 => by have := hpx k k0 (by omega); omega)) ?_; clear hF hB; rintro _ w ⟨rfl, hS'⟩ a hF hcl
             replace hS : Sat w0 w [.blk g1 [vc, vA, vb], .blk g2 [vX, vY, .int .i64 s.val, .int .i64 s.den]] := hS.comp hS'; clear hS'
             refine ⟨⟨(fun _ => hS.sub (.cons_cons _ (.cons_cons _ .slnil))), hS.sub (.cons_cons _ (.cons_cons _ .slnil))⟩, fun hB => ?_⟩
             refine dr_val hF hcl hB 16 rfl (.free rfl) rfl rfl (by kernel_rfl) rfl (fun w => (ex_lss rfl rfl rfl)) ?_; clear hF a hcl hB; intro a hF hcl hB
             refine dr_done (by kernel_rfl) ?_; clear hcl hB
             refine then_normal ?_
             refine cw_if hF rfl (fun hc => ?_) (fun hc => ?_)
             ·
              refine cw_seq ?_
              refine wp_region_lit ?_
              refine ls_val hF (.free rfl) rfl rfl (ex_assign rfl rfl) ?_; clear hF a; intro a hF
              refine ls_nil ?_
              refine then_normal ?_
              refine wp_ret ?_
              refine inb_ret (then_ret (then_ret (inb_ret (then_ret ((fin1 hF rfl rfl ⟨_, rfl, ?_⟩))))))
              exact ⟨false_B (fun hk => by
               have e1 := hk.d1; have e2 := hk.d2; have e3 := hk.n; have e4 := hk.m; have e5 := hk.cX; have e6 := hk.bY; have e0 := hk.v
               first
               | omega
               | exact absurd hk.ok ‹¬ LOk p›
               | exact absurd (fun k k0 k1 => hk.X k k0 (by omega)) ‹¬ (∀ k, 0 ≤ k → k < s.n → 0 ≤ s.X k ∧ s.X k ≤ 1073741824)›
               | exact absurd (fun k k0 k1 => hk.Y k k0 (by omega)) ‹¬ (∀ k, 0 ≤ k → k < s.m → 0 ≤ s.Y k ∧ s.Y k ≤ 1073741824)›
               | (have e7 := hk.rows i h0 (by omega); have e8 := (hl.rows i h0 (by omega)).1; rw [← e8] at e7; omega)
               | (have e7 := hk.cols j j0 (by omega); rw [wgt_dotp] at e7; omega)
               | (rw [b4] at *; omega)), hS.sub (.cons _ (.cons _ .slnil))⟩
             ·
              refine wp_skip ?_
              refine inb_normal ?_
              refine then_normal ?_
              refine wp_region_lit ?_
              refine ls_val hF (.free rfl) rfl rfl (ex_move rfl rfl) ?_; clear hF a; intro a hF
              refine ls_val hF (.free rfl) rfl rfl (ex_add (r := i + 1) rfl rfl rfl (by omega) (by unfold I64; omega)) ?_; clear hF a; intro a hF
              refine ls_val hF (.free rfl) rfl rfl (ex_assign rfl rfl) ?_; clear hF a; intro a hF
              refine ls_nil ?_
              refine then_normal ?_
              refine ⟨_, (by omega), i + 1, rfl, (by omega), (by omega), ?_, (hF.pick (hF.pick (hF.pick hF.nil 5 rfl) 3 rfl) 2 rfl), hS⟩
              ·
               intro k k0 k1; rcases Int.lt_or_eq_of_le (show k ≤ i by omega) with hk | hk; exact hrw k k0 hk; rw [hk]; have := (hl.rows i h0 (by omega)).1; rw [← this]; omega
            ·
             refine wp_exit ?_
             refine then_exit ?_
             refine then_exit ?_
             refine inb_hit ?_
             refine then_normal ?_
             refine cw_seq ?_
             refine cw_seq ?_
             refine wp_region_lit ?_
             refine ls_val hF (.free rfl) rfl rfl (ex_assign rfl rfl) ?_; clear hF a; intro a hF
             refine ls_nil ?_
             refine then_normal ?_
             refine wp_block ?_
             refine cw_loop (fun mm a w => ∃ (j : Int), mm = ((p.n - j).toNat) ∧ (0 ≤ j) ∧ (j ≤ p.n) ∧ (∀ k, 0 ≤ k → k < j → wgt p.A s.Y p.m.toNat k ≤ p.c k * s.den) ∧ Fr a 124 [(2, .pointer (some ⟨g1, 0, none⟩)), (3, .pointer (some ⟨g2, 0, none⟩)), (6, .int .i64 j)] ∧ Sat w0 w [.blk g1 [vc, vA, vb], .blk g2 [vX, vY, .int .i64 s.val, .int .i64 s.den]]) ?_ ?_ (m := ((p.n - 0).toNat))
             ·
              refine ⟨0, rfl, (by omega), (by omega), ?_, (hF.pick (hF.pick (hF.pick hF.nil 6 rfl) 3 rfl) 2 rfl), hS⟩
              ·
               intro k k0 k1; omega
             ·
              clear hF hS a w
              rintro mm a w ⟨j, rfl, j0, j1, hcw, hF, hS⟩
              refine cw_seq ?_
              refine cw_seq ?_
              refine wp_region_lit ?_
              refine ls_val hF (.free rfl) rfl rfl (ex_move rfl rfl) ?_; clear hF a; intro a hF
              refine ls_val hF (.free rfl) rfl rfl (ex_field (b := ⟨g1, 0, none⟩) rfl fd_25_0 rfl rfl) ?_; clear hF a; intro a hF
              refine ls_val hF (.free rfl) rfl rfl (ex_load_blk 0 rfl pl_22 rfl hS rfl rfl) ?_; clear hF a; intro a hF
              refine ls_val hF (.free rfl) rfl rfl (ex_len rfl sl_22 rfl hL.c.slh) ?_; clear hF a; intro a hF
              refine ls_val hF (.free rfl) rfl rfl (ex_lss rfl rfl rfl) ?_; clear hF a; intro a hF
              refine ls_nil ?_
              refine then_normal ?_
              refine cw_if hF rfl (fun hc => ?_) (fun hc => ?_)
              ·
               refine wp_skip ?_
               refine then_normal ?_
               refine cw_seq ?_
               refine wp_block ?_
               refine cw_seq ?_
               refine dr_sat (m0 := [.blk g1 [vc, vA, vb], .blk g2 [vX, vY, .int .i64 s.val, .int .i64 s.den]]) (m1 := [.blk g1 [vc, vA, vb], .blk g2 [vX, vY, .int .i64 s.val, .int .i64 s.den]]) 1000 mx_ hS (.cons_cons _ (.cons_cons _ .slnil)) (.cons_cons _ (.cons_cons _ .slnil)) rfl ?_; clear hS; intro w hS hcl hB
               refine dr_loadA hF hcl hB 0 rfl (.free rfl) rfl rfl (by kernel_rfl) rfl (fun w hS => (ex_loads_blk 0 rfl st_25 rfl hS rfl rfl)) ?_; clear hF a hcl hB; intro a hF hcl hB
               refine dr_val hF hcl hB 1 rfl (.free rfl) rfl rfl (by kernel_rfl) rfl (fun w => (ex_move rfl rfl)) ?_; clear hF a hcl hB; intro a hF hcl hB
               refine dr_val hF hcl hB 3 rfl (.free rfl) rfl rfl (by kernel_rfl) rfl (fun w => (ex_field (b := ⟨g2, 1, none⟩) rfl fd_37_1 rfl rfl)) ?_; clear hF a hcl hB; intro a hF hcl hB
               refine dr_loadA hF hcl hB 4 rfl (.free rfl) rfl rfl (by kernel_rfl) rfl (fun w hS => (ex_load_blk 1 rfl pl_22 rfl hS rfl rfl)) ?_; clear hF a hcl hB; intro a hF hcl hB
               refine dr_val hF hcl hB 6 rfl (.free rfl) rfl rfl (by kernel_rfl) rfl (fun w => (ex_field (b := ⟨g1, 0, none⟩) rfl fd_25_0 rfl rfl)) ?_; clear hF a hcl hB; intro a hF hcl hB
               refine dr_loadA hF hcl hB 7 rfl (.free rfl) rfl rfl (by kernel_rfl) rfl (fun w hS => (ex_load_blk 0 rfl pl_22 rfl hS rfl rfl)) ?_; clear hF a hcl hB; intro a hF hcl hB
               refine dr_val hF hcl hB 8 rfl (.free rfl) rfl rfl (by kernel_rfl) rfl (fun w => (ex_move rfl rfl)) ?_; clear hF a hcl hB; intro a hF hcl hB
               refine dr_val hF hcl hB 9 rfl (.free rfl) rfl rfl (by kernel_rfl) rfl (fun w => (ex_index (k := j) rfl sl_22 rfl rfl hL.c.slh (by omega) (by omega) (by omega))) ?_; clear hF a hcl hB; intro a hF hcl hB
               refine dr_loadA hF hcl hB 10 rfl (.free rfl) rfl rfl (by kernel_rfl) rfl (fun w hS => (ex_load_row (u := .int .i64 (p.c j)) rfl pl_3 rfl (hL.c.below hS.below) (by omega) (by omega) rfl)) ?_; clear hF a hcl hB; intro a hF hcl hB
               refine dr_val hF hcl hB 11 rfl (.free rfl) rfl rfl (by kernel_rfl) rfl (fun w => (ex_field (b := ⟨g2, 3, none⟩) rfl fd_37_3 rfl rfl)) ?_; clear hF a hcl hB; intro a hF hcl hB
               refine dr_loadA hF hcl hB 12 rfl (.free rfl) rfl rfl (by kernel_rfl) rfl (fun w hS => (ex_load_blk 1 rfl pl_3 rfl hS rfl rfl)) ?_; clear hF a hcl hB; intro a hF hcl hB
               have hmu := mul_abs (show -1000000 ≤ p.c j ∧ p.c j ≤ 1000000 by have := hl.c j j0 (by omega); omega) (show -1073741824 ≤ s.den ∧ s.den ≤ 1073741824 by omega)
               refine dr_val hF hcl hB 13 rfl (.free rfl) rfl rfl (by kernel_rfl) rfl (fun w => (ex_mul (r := ((p.c j) * s.den)) rfl rfl rfl rfl (by unfold I64; omega))) ?_; clear hF a hcl hB; intro a hF hcl hB
               refine dr_call hF hcl 2 rfl (.free rfl) rfl rfl (by kernel_rfl) (ex_call0 rfl rfl cl_42 (args_cons rfl (args_cons rfl args0))) (c_column (p := p) (j := j) w (hL.below hS.below) hl (by omega) (by omega)) ?_; clear hF hB; rintro vq1 w ⟨_, rfl, hslq1, hS'⟩ a hF hcl
               replace hS : Sat w0 w [.blk g1 [vc, vA, vb], .blk g2 [vX, vY, .int .i64 s.val, .int .i64 s.den], .own vq1 1 3 p.m (ints (fun i => p.A i j))] := hS.comp hS'; clear hS'
               refine ⟨⟨(fun _ => hS.sub (.cons_cons _ (.cons_cons _ (.cons _ .slnil)))), hS.sub (.cons_cons _ (.cons_cons _ (.cons _ .slnil)))⟩, fun hB => ?_⟩
               refine dr_call hF hcl 5 rfl (.free rfl) rfl rfl (by kernel_rfl) (ex_call0 rfl rfl cl_41 (args_cons rfl (args_cons rfl args0))) (c_dot (n := p.m) (f := (fun i => p.A i j)) (m := s.m) (g := s.Y) w (hS.rowN 2 rfl) (hY.below hS.below) (by omega) (by omega) (fun k k0 k1 => (hl.rows k k0 (by omega)).2 j j0 (by omega)) (fun k k0 k1 => by have := hpy k k0 (by omega); omega)) ?_; clear hF hB; rintro _ w ⟨rfl, hS'⟩ a hF hcl
               replace hS : Sat w0 w [.blk g1 [vc, vA, vb], .blk g2 [vX, vY, .int .i64 s.val, .int .i64 s.den], .own vq1 1 3 p.m (ints (fun i => p.A i j))] := hS.comp hS'; clear hS'
               refine ⟨⟨(fun _ => hS.sub (.cons_cons _ (.cons_cons _ (.cons _ .slnil)))), hS.sub (.cons_cons _ (.cons_cons _ (.cons _ .slnil)))⟩, fun hB => ?_⟩
               refine dr_val hF hcl hB 14 rfl (.free rfl) rfl rfl (by kernel_rfl) rfl (fun w => (ex_gtr rfl rfl rfl)) ?_; clear hF a hcl hB; intro a hF hcl hB
               refine dr_done (by kernel_rfl) ?_; clear hcl hB
               refine then_normal ?_
               refine cw_if hF rfl (fun hc => ?_) (fun hc => ?_)
               ·
                refine cw_seq ?_
                refine wp_region_lit ?_
                refine ls_val hF (.free rfl) rfl rfl (ex_assign rfl rfl) ?_; clear hF a; intro a hF
                refine ls_nil ?_
                refine then_normal ?_
                refine wp_ret ?_
                refine inb_ret (then_ret (then_ret (inb_ret (then_ret ((fin1 hF rfl rfl ⟨_, rfl, ?_⟩))))))
                exact ⟨false_B (fun hk => by
                 have e1 := hk.d1; have e2 := hk.d2; have e3 := hk.n; have e4 := hk.m; have e5 := hk.cX; have e6 := hk.bY; have e0 := hk.v
                 first
                 | omega
                 | exact absurd hk.ok ‹¬ LOk p›
                 | exact absurd (fun k k0 k1 => hk.X k k0 (by omega)) ‹¬ (∀ k, 0 ≤ k → k < s.n → 0 ≤ s.X k ∧ s.X k ≤ 1073741824)›
                 | exact absurd (fun k k0 k1 => hk.Y k k0 (by omega)) ‹¬ (∀ k, 0 ≤ k → k < s.m → 0 ≤ s.Y k ∧ s.Y k ≤ 1073741824)›
                 | (have e7 := hk.rows i h0 (by omega); have e8 := (hl.rows i h0 (by omega)).1; rw [← e8] at e7; omega)
                 | (have e7 := hk.cols j j0 (by omega); rw [wgt_dotp] at e7; omega)
                 | (rw [b4] at *; omega)), hS.sub (.cons _ (.cons _ (.cons _ .slnil)))⟩
               ·
                refine wp_skip ?_
                refine inb_normal ?_
                refine then_normal ?_
                refine wp_region_lit ?_
                refine ls_val hF (.free rfl) rfl rfl (ex_move rfl rfl) ?_; clear hF a; intro a hF
                refine ls_val hF (.free rfl) rfl rfl (ex_add (r := j + 1) rfl rfl rfl (by omega) (by unfold I64; omega)) ?_; clear hF a; intro a hF
                refine ls_val hF (.free rfl) rfl rfl (ex_assign rfl rfl) ?_; clear hF a; intro a hF
                refine ls_nil ?_
                refine then_normal ?_
                refine ⟨_, (by omega), j + 1, rfl, (by omega), (by omega), ?_, (hF.pick (hF.pick (hF.pick hF.nil 6 rfl) 3 rfl) 2 rfl), hS.sub (.cons_cons _ (.cons_cons _ (.cons _ .slnil)))⟩
                ·
                 intro k k0 k1; rcases Int.lt_or_eq_of_le (show k ≤ j by omega) with hk | hk; exact hcw k k0 hk; rw [hk, wgt_dotp]; omega
              ·
               refine wp_exit ?_
               refine then_exit ?_
               refine then_exit ?_
               refine inb_hit ?_
               refine then_normal ?_
               refine cw_seq ?_
               refine dr_sat (m0 := [.blk g1 [vc, vA, vb], .blk g2 [vX, vY, .int .i64 s.val, .int .i64 s.den]]) (m1 := [.blk g1 [vc, vA, vb], .blk g2 [vX, vY, .int .i64 s.val, .int .i64 s.den]]) 1000 mx_ hS (.cons_cons _ (.cons_cons _ .slnil)) (.cons_cons _ (.cons_cons _ .slnil)) rfl ?_; clear hS; intro w hS hcl hB
               refine dr_val hF hcl hB 0 rfl (.free rfl) rfl rfl (by kernel_rfl) rfl (fun w => (ex_field (b := ⟨g1, 0, none⟩) rfl fd_25_0 rfl rfl)) ?_; clear hF a hcl hB; intro a hF hcl hB
               refine dr_loadA hF hcl hB 1 rfl (.free rfl) rfl rfl (by kernel_rfl) rfl (fun w hS => (ex_load_blk 0 rfl pl_22 rfl hS rfl rfl)) ?_; clear hF a hcl hB; intro a hF hcl hB
               refine dr_val hF hcl hB 2 rfl (.free rfl) rfl rfl (by kernel_rfl) rfl (fun w => (ex_field (b := ⟨g2, 0, none⟩) rfl fd_37_0 rfl rfl)) ?_; clear hF a hcl hB; intro a hF hcl hB
               refine dr_loadA hF hcl hB 3 rfl (.free rfl) rfl rfl (by kernel_rfl) rfl (fun w hS => (ex_load_blk 1 rfl pl_22 rfl hS rfl rfl)) ?_; clear hF a hcl hB; intro a hF hcl hB
               refine dr_val hF hcl hB 5 rfl (.free rfl) rfl rfl (by kernel_rfl) rfl (fun w => (ex_field (b := ⟨g2, 2, none⟩) rfl fd_37_2 rfl rfl)) ?_; clear hF a hcl hB; intro a hF hcl hB
               refine dr_loadA hF hcl hB 6 rfl (.free rfl) rfl rfl (by kernel_rfl) rfl (fun w hS => (ex_load_blk 1 rfl pl_3 rfl hS rfl rfl)) ?_; clear hF a hcl hB; intro a hF hcl hB
               refine dr_call hF hcl 4 rfl (.free rfl) rfl rfl (by kernel_rfl) (ex_call0 rfl rfl cl_41 (args_cons rfl (args_cons rfl args0))) (c_dot (n := p.n) (f := p.c) (m := s.n) (g := s.X) w (hL.c.below hS.below) (hX.below hS.below) (by omega) (by omega) (fun k k0 k1 => by have := hl.c k k0 k1; omega) (fun k k0 k1 => by have := hpx k k0 (by omega); omega)) ?_; clear hF hB; rintro _ w ⟨rfl, hS'⟩ a hF hcl
               replace hS : Sat w0 w [.blk g1 [vc, vA, vb], .blk g2 [vX, vY, .int .i64 s.val, .int .i64 s.den]] := hS.comp hS'; clear hS'
               refine ⟨⟨(fun _ => hS.sub (.cons_cons _ (.cons_cons _ .slnil))), hS.sub (.cons_cons _ (.cons_cons _ .slnil))⟩, fun hB => ?_⟩
               refine dr_val hF hcl hB 7 rfl (.free rfl) rfl rfl (by kernel_rfl) rfl (fun w => (ex_eql rfl rfl rfl)) ?_; clear hF a hcl hB; intro a hF hcl hB
               refine dr_val hF hcl hB 8 rfl (.free rfl) rfl rfl (by kernel_rfl) rfl (fun w => (ex_move rfl rfl)) ?_; clear hF a hcl hB; intro a hF hcl hB
               refine by_slot hF (d := 114) rfl ?_ ?_ <;> clear hF <;> intro hc hF
               ·
                refine dr_val hF hcl hB 9 rfl (.on rfl rfl rfl rfl rfl) rfl rfl (by kernel_rfl) rfl (fun w => (ex_field (b := ⟨g1, 2, none⟩) rfl fd_25_2 rfl rfl)) ?_; clear hF a hcl hB; intro a hF hcl hB
                refine dr_loadA hF hcl hB 10 rfl (.on rfl rfl rfl rfl rfl) rfl rfl (by kernel_rfl) rfl (fun w hS => (ex_load_blk 0 rfl pl_22 rfl hS rfl rfl)) ?_; clear hF a hcl hB; intro a hF hcl hB
                refine dr_val hF hcl hB 11 rfl (.on rfl rfl rfl rfl rfl) rfl rfl (by kernel_rfl) rfl (fun w => (ex_field (b := ⟨g2, 1, none⟩) rfl fd_37_1 rfl rfl)) ?_; clear hF a hcl hB; intro a hF hcl hB
                refine dr_loadA hF hcl hB 12 rfl (.on rfl rfl rfl rfl rfl) rfl rfl (by kernel_rfl) rfl (fun w hS => (ex_load_blk 1 rfl pl_22 rfl hS rfl rfl)) ?_; clear hF a hcl hB; intro a hF hcl hB
                refine dr_val hF hcl hB 14 rfl (.on rfl rfl rfl rfl rfl) rfl rfl (by kernel_rfl) rfl (fun w => (ex_field (b := ⟨g2, 2, none⟩) rfl fd_37_2 rfl rfl)) ?_; clear hF a hcl hB; intro a hF hcl hB
                refine dr_loadA hF hcl hB 15 rfl (.on rfl rfl rfl rfl rfl) rfl rfl (by kernel_rfl) rfl (fun w hS => (ex_load_blk 1 rfl pl_3 rfl hS rfl rfl)) ?_; clear hF a hcl hB; intro a hF hcl hB
                refine dr_call hF hcl 13 rfl (.on rfl rfl rfl rfl rfl) rfl rfl (by kernel_rfl) (ex_call0 rfl rfl cl_41 (args_cons rfl (args_cons rfl args0))) (c_dot (n := p.k) (f := p.b) (m := s.m) (g := s.Y) w (hL.b.below hS.below) (hY.below hS.below) (by omega) (by omega) (fun k k0 k1 => hl.b k k0 (by omega)) (fun k k0 k1 => by have := hpy k k0 (by omega); omega)) ?_; clear hF hB; rintro _ w ⟨rfl, hS'⟩ a hF hcl
                replace hS : Sat w0 w [.blk g1 [vc, vA, vb], .blk g2 [vX, vY, .int .i64 s.val, .int .i64 s.den]] := hS.comp hS'; clear hS'
                refine ⟨⟨(fun _ => hS.sub (.cons_cons _ (.cons_cons _ .slnil))), hS.sub (.cons_cons _ (.cons_cons _ .slnil))⟩, fun hB => ?_⟩
                refine dr_val hF hcl hB 16 rfl (.on rfl rfl rfl rfl rfl) rfl rfl (by kernel_rfl) rfl (fun w => (ex_eql rfl rfl rfl)) ?_; clear hF a hcl hB; intro a hF hcl hB
                refine dr_val hF hcl hB 17 rfl (.free rfl) rfl rfl (by kernel_rfl) rfl (fun w => (ex_pick_t rfl rfl rfl)) ?_; clear hF a hcl hB; intro a hF hcl hB
                refine dr_val hF hcl hB 18 rfl (.free rfl) rfl rfl (by kernel_rfl) rfl (fun w => (ex_assign rfl rfl)) ?_; clear hF a hcl hB; intro a hF hcl hB
                refine dr_done (by kernel_rfl) ?_; clear hcl hB
                refine then_normal ?_
                refine wp_ret ?_
                refine (fin1 hF rfl rfl ⟨_, rfl, ?_⟩)
                exact ⟨B_congr ⟨fun hx => ⟨hl, by omega, by omega, hvv, hsn, hsm, hpx, hpy, fun k k0 k1 => hrw k k0 (by omega), fun k k0 k1 => hcw k k0 (by omega), by omega, by first | omega | (rw [← b4]; omega)⟩, fun hk => by have e5 := hk.cX; have e6 := hk.bY; first | omega | (rw [b4]; omega)⟩, hS.sub (.cons _ (.cons _ .slnil))⟩
               ·
                refine dr_off hF hcl hB 9 rfl (.on rfl rfl rfl rfl rfl) rfl rfl (by kernel_rfl) rfl ?_; clear hF a hcl hB; intro a hF hcl hB
                refine dr_off hF hcl hB 10 rfl (.on rfl rfl rfl rfl rfl) rfl rfl (by kernel_rfl) rfl ?_; clear hF a hcl hB; intro a hF hcl hB
                refine dr_off hF hcl hB 11 rfl (.on rfl rfl rfl rfl rfl) rfl rfl (by kernel_rfl) rfl ?_; clear hF a hcl hB; intro a hF hcl hB
                refine dr_off hF hcl hB 12 rfl (.on rfl rfl rfl rfl rfl) rfl rfl (by kernel_rfl) rfl ?_; clear hF a hcl hB; intro a hF hcl hB
                refine dr_off hF hcl hB 14 rfl (.on rfl rfl rfl rfl rfl) rfl rfl (by kernel_rfl) rfl ?_; clear hF a hcl hB; intro a hF hcl hB
                refine dr_off hF hcl hB 15 rfl (.on rfl rfl rfl rfl rfl) rfl rfl (by kernel_rfl) rfl ?_; clear hF a hcl hB; intro a hF hcl hB
                refine dr_off hF hcl hB 13 rfl (.on rfl rfl rfl rfl rfl) rfl rfl (by kernel_rfl) rfl ?_; clear hF a hcl hB; intro a hF hcl hB
                refine dr_off hF hcl hB 16 rfl (.on rfl rfl rfl rfl rfl) rfl rfl (by kernel_rfl) rfl ?_; clear hF a hcl hB; intro a hF hcl hB
                refine dr_val hF hcl hB 17 rfl (.free rfl) rfl rfl (by kernel_rfl) rfl (fun w => (ex_pick_f rfl rfl rfl)) ?_; clear hF a hcl hB; intro a hF hcl hB
                refine dr_val hF hcl hB 18 rfl (.free rfl) rfl rfl (by kernel_rfl) rfl (fun w => (ex_assign rfl rfl)) ?_; clear hF a hcl hB; intro a hF hcl hB
                refine dr_done (by kernel_rfl) ?_; clear hcl hB
                refine then_normal ?_
                refine wp_ret ?_
                refine (fin1 hF rfl rfl ⟨_, rfl, ?_⟩)
                exact ⟨false_B (fun hk => by
                 have e1 := hk.d1; have e2 := hk.d2; have e3 := hk.n; have e4 := hk.m; have e5 := hk.cX; have e6 := hk.bY; have e0 := hk.v
                 first
                 | omega
                 | exact absurd hk.ok ‹¬ LOk p›
                 | exact absurd (fun k k0 k1 => hk.X k k0 (by omega)) ‹¬ (∀ k, 0 ≤ k → k < s.n → 0 ≤ s.X k ∧ s.X k ≤ 1073741824)›
                 | exact absurd (fun k k0 k1 => hk.Y k k0 (by omega)) ‹¬ (∀ k, 0 ≤ k → k < s.m → 0 ≤ s.Y k ∧ s.Y k ≤ 1073741824)›
                 | (have e7 := hk.rows i h0 (by omega); have e8 := (hl.rows i h0 (by omega)).1; rw [← e8] at e7; omega)
                 | (have e7 := hk.cols j j0 (by omega); rw [wgt_dotp] at e7; omega)
                 | (rw [b4] at *; omega)), hS.sub (.cons _ (.cons _ .slnil))⟩

set_option maxRecDepth 20000 in
theorem c_permitted {vc vA vb : Value} {vq : Int → Value} {p : Lp} {vx : Value} {x : Int → Int} (w0 : World) (hL : LAt w0 vc vA vb vq p) (hl : LOk p) (hx : Row w0 vx 1 p.n (ints x)) (hxb : ∀ k, 0 ≤ k → k < p.n → -1073741824 ≤ x k ∧ x k ≤ 1073741824) :
    Calls Try.prog 19 [.agg #[vc, vA, vb], vx].toArray w0 fun e w => ∃ v, e = .returned v ∧ ∃ (c : Int) (ok : Bool), v = .tuple #[.int .i64 c, .bool ok] ∧ PermR p x c ok ∧ Sat w0 w [] := by
  have hn := hL.c.slh.n0; have hn1 := hL.c.slh.n1; have hm := hL.A.row.slh.n0; have hm1 := hL.A.row.slh.n1; have hk := hL.b.slh.n0; have hk1 := hL.b.slh.n1
  have b1 := hl.n1; have b2 := hl.n2; have b3 := hl.m2; have b4 := hl.k
  refine enterS (vs := [.agg #[vc, vA, vb], vx]) Try.func19 rfl Try.ntmps19 rfl ?_
  intro a w hS hF
  refine cw_seq ?_
  refine wp_region_lit ?_
  refine ls_any hF (.free rfl) rfl rfl (ex_box (cs := [vc, vA, vb]) rfl hS rfl rfl) ?_; clear hF; rintro _ w ⟨g1, rfl, hS⟩ a hF
  replace hS : Sat w0 w [.blk g1 [vc, vA, vb]] := hS
  refine ls_val hF (.free rfl) rfl rfl (ex_assign rfl rfl) ?_; clear hF a; intro a hF
  refine ls_val hF (.free rfl) rfl rfl (ex_assign rfl rfl) ?_; clear hF a; intro a hF
  refine ls_nil ?_
  refine then_normal ?_
  refine cw_seq ?_
  refine cw_seq ?_
  refine wp_region_lit ?_
  refine ls_val hF (.free rfl) rfl rfl (ex_field (b := ⟨g1, 1, none⟩) rfl fd_25_1 rfl rfl) ?_; clear hF a; intro a hF
  refine ls_val hF (.free rfl) rfl rfl (ex_load_blk 0 rfl pl_23 rfl hS rfl rfl) ?_; clear hF a; intro a hF
  refine ls_val hF (.free rfl) rfl rfl (ex_len rfl sl_23 rfl hL.A.row.slh) ?_; clear hF a; intro a hF
  refine ls_val hF (.free rfl) rfl rfl (ex_move rfl rfl) ?_; clear hF a; intro a hF
  refine ls_nil ?_
  refine then_normal ?_
  refine wp_block ?_
  refine cw_loop (fun mm a w => ∃ (i : Int), mm = ((p.m - i).toNat) ∧ (0 ≤ i) ∧ (i ≤ p.m) ∧ (∀ k, 0 ≤ k → k < i → p.b k ≤ dotp (p.A k) x p.n.toNat) ∧ Fr a 65 [(1, vx), (2, .pointer (some ⟨g1, 0, none⟩)), (13, vA), (14, .int .i64 p.m), (15, .int .i64 i)] ∧ Sat w0 w [.blk g1 [vc, vA, vb]]) ?_ ?_ (m := ((p.m - 0).toNat))
  ·
   refine ⟨0, rfl, (by omega), (by omega), ?_, (hF.pick (hF.pick (hF.pick (hF.pick (hF.pick hF.nil 15 rfl) 14 rfl) 13 rfl) 2 rfl) 1 rfl), hS⟩
   ·
    intro k k0 k1; omega
  ·
   clear hF hS a w
   rintro mm a w ⟨i, rfl, h0, h1, hrw, hF, hS⟩
   refine cw_seq ?_
   refine wp_region_lit ?_
   refine ls_val hF (.free rfl) rfl rfl (ex_lss rfl rfl rfl) ?_; clear hF a; intro a hF
   refine ls_nil ?_
   refine then_normal ?_
   refine cw_seq ?_
   refine cw_if hF rfl (fun hc => ?_) (fun hc => ?_)
   ·
    refine wp_skip ?_
    refine then_normal ?_
    refine cw_seq ?_
    refine wp_block ?_
    refine cw_seq ?_
    refine wp_region_lit ?_
    refine ls_val hF (.free rfl) rfl rfl (ex_move rfl rfl) ?_; clear hF a; intro a hF
    refine ls_val hF (.free rfl) rfl rfl (ex_index (k := i) rfl sl_23 rfl rfl hL.A.row.slh (by omega) (by omega) (by omega)) ?_; clear hF a; intro a hF
    refine ls_val hF (.free rfl) rfl rfl (ex_load_row (u := (vq i)) rfl pl_22 rfl (hL.A.row.below hS.below) (by omega) (by omega) rfl) ?_; clear hF a; intro a hF
    refine ls_val hF (.free rfl) rfl rfl (ex_assign rfl rfl) ?_; clear hF a; intro a hF
    refine ls_val hF (.free rfl) rfl rfl (ex_assign rfl rfl) ?_; clear hF a; intro a hF
    refine ls_nil ?_
    refine then_normal ?_
    refine cw_seq ?_
    refine wp_region_lit ?_
    refine ls_val hF (.free rfl) rfl rfl (ex_assign rfl rfl) ?_; clear hF a; intro a hF
    refine ls_nil ?_
    refine then_normal ?_
    refine cw_seq ?_
    refine cw_seq ?_
    refine wp_region_lit ?_
    refine ls_val hF (.free rfl) rfl rfl (ex_move rfl rfl) ?_; clear hF a; intro a hF
    refine ls_val hF (.free rfl) rfl rfl (ex_len rfl sl_22 rfl (hL.A.p i (by omega) (by omega)).slh) ?_; clear hF a; intro a hF
    have hri := (hl.rows i h0 (by omega)).1
    refine ls_val hF (.free rfl) rfl rfl (ex_move rfl rfl) ?_; clear hF a; intro a hF
    refine ls_nil ?_
    refine then_normal ?_
    refine wp_block ?_
    refine cw_loop (fun mm a w => ∃ (y : Int) (j : Int), mm = ((p.ln i - j).toNat) ∧ (0 ≤ j) ∧ (j ≤ p.ln i) ∧ (y = dotp (p.A i) x j.toNat) ∧ Fr a 65 [(1, vx), (2, .pointer (some ⟨g1, 0, none⟩)), (6, .int .i64 i), (7, (vq i)), (8, .int .i64 y), (13, vA), (14, .int .i64 p.m), (15, .int .i64 i), (21, .int .i64 (p.ln i)), (22, .int .i64 j)] ∧ Sat w0 w [.blk g1 [vc, vA, vb]]) ?_ ?_ (m := ((p.ln i - 0).toNat))
    ·
     refine ⟨0, 0, rfl, (by omega), (by omega), ?_, (hF.pick (hF.pick (hF.pick (hF.pick (hF.pick (hF.pick (hF.pick (hF.pick (hF.pick (hF.pick hF.nil 22 rfl) 21 rfl) 15 rfl) 14 rfl) 13 rfl) 8 rfl) 7 rfl) 6 rfl) 2 rfl) 1 rfl), hS⟩
     ·
      rfl
    ·
     clear hF hS a w
     rintro mm a w ⟨y, j, rfl, j0, j1, hy, hF, hS⟩
     refine cw_seq ?_
     refine wp_region_lit ?_
     refine ls_val hF (.free rfl) rfl rfl (ex_lss rfl rfl rfl) ?_; clear hF a; intro a hF
     refine ls_nil ?_
     refine then_normal ?_
     refine cw_seq ?_
     refine cw_if hF rfl (fun hc => ?_) (fun hc => ?_)
     ·
      refine wp_skip ?_
      refine then_normal ?_
      refine cw_seq ?_
      refine wp_block ?_
      refine cw_seq ?_
      refine wp_region_lit ?_
      refine ls_val hF (.free rfl) rfl rfl (ex_move rfl rfl) ?_; clear hF a; intro a hF
      refine ls_val hF (.free rfl) rfl rfl (ex_assign rfl rfl) ?_; clear hF a; intro a hF
      refine ls_nil ?_
      refine then_normal ?_
      refine dr_sat (m0 := [.blk g1 [vc, vA, vb]]) (m1 := [.blk g1 [vc, vA, vb]]) 1000 mx_ hS (.cons_cons _ .slnil) (.cons_cons _ .slnil) rfl ?_; clear hS; intro w hS hcl hB
      refine dr_val hF hcl hB 0 rfl (.free rfl) rfl rfl (by kernel_rfl) rfl (fun w => (ex_move rfl rfl)) ?_; clear hF a hcl hB; intro a hF hcl hB
      refine dr_val hF hcl hB 1 rfl (.free rfl) rfl rfl (by kernel_rfl) rfl (fun w => (ex_move rfl rfl)) ?_; clear hF a hcl hB; intro a hF hcl hB
      refine dr_val hF hcl hB 2 rfl (.free rfl) rfl rfl (by kernel_rfl) rfl (fun w => (ex_move rfl rfl)) ?_; clear hF a hcl hB; intro a hF hcl hB
      refine dr_val hF hcl hB 3 rfl (.free rfl) rfl rfl (by kernel_rfl) rfl (fun w => (ex_index (k := j) rfl sl_22 rfl rfl (hL.A.p i (by omega) (by omega)).slh (by omega) (by omega) (by omega))) ?_; clear hF a hcl hB; intro a hF hcl hB
      refine dr_loadA hF hcl hB 4 rfl (.free rfl) rfl rfl (by kernel_rfl) rfl (fun w hS => (ex_load_row (u := .int .i64 ((p.A i) j)) rfl pl_3 rfl ((hL.A.p i (by omega) (by omega)).below hS.below) (by omega) (by omega) rfl)) ?_; clear hF a hcl hB; intro a hF hcl hB
      refine dr_val hF hcl hB 5 rfl (.free rfl) rfl rfl (by kernel_rfl) rfl (fun w => (ex_move rfl rfl)) ?_; clear hF a hcl hB; intro a hF hcl hB
      refine dr_val hF hcl hB 6 rfl (.free rfl) rfl rfl (by kernel_rfl) rfl (fun w => (ex_move rfl rfl)) ?_; clear hF a hcl hB; intro a hF hcl hB
      refine dr_val hF hcl hB 7 rfl (.free rfl) rfl rfl (by kernel_rfl) rfl (fun w => (ex_index (k := j) rfl sl_22 rfl rfl hx.slh (by omega) (by omega) (by omega))) ?_; clear hF a hcl hB; intro a hF hcl hB
      refine dr_loadA hF hcl hB 8 rfl (.free rfl) rfl rfl (by kernel_rfl) rfl (fun w hS => (ex_load_row (u := .int .i64 (x j)) rfl pl_3 rfl (hx.below hS.below) (by omega) (by omega) rfl)) ?_; clear hF a hcl hB; intro a hF hcl hB
      have hmu := mul_abs ((hl.rows i h0 (by omega)).2 j j0 (by omega)) (hxb j j0 (by omega))
      have hbd := dotp_bd (f := p.A i) (g := x) (A := 1000000) (B := 1073741824) (by omega) (by omega) j.toNat (fun k k0 k1 => (hl.rows i h0 (by omega)).2 k k0 (by omega)) (fun k k0 k1 => hxb k k0 (by omega))
      refine dr_val hF hcl hB 9 rfl (.free rfl) rfl rfl (by kernel_rfl) rfl (fun w => (ex_mul (r := (((p.A i) j) * (x j))) rfl rfl rfl rfl (by unfold I64; omega))) ?_; clear hF a hcl hB; intro a hF hcl hB
      refine dr_val hF hcl hB 10 rfl (.free rfl) rfl rfl (by kernel_rfl) rfl (fun w => (ex_add (r := y + (((p.A i) j) * (x j))) rfl rfl rfl (by omega) (by unfold I64; omega))) ?_; clear hF a hcl hB; intro a hF hcl hB
      refine dr_val hF hcl hB 11 rfl (.free rfl) rfl rfl (by kernel_rfl) rfl (fun w => (ex_assign rfl rfl)) ?_; clear hF a hcl hB; intro a hF hcl hB
      refine dr_done (by kernel_rfl) ?_; clear hcl hB
      refine inb_normal ?_
      refine then_normal ?_
      refine wp_region_lit ?_
      refine ls_val hF (.free rfl) rfl rfl (ex_add (r := j + 1) rfl rfl rfl (by omega) (by unfold I64; omega)) ?_; clear hF a; intro a hF
      refine ls_val hF (.free rfl) rfl rfl (ex_move rfl rfl) ?_; clear hF a; intro a hF
      refine ls_nil ?_
      refine then_normal ?_
      refine ⟨_, (by omega), y + (((p.A i) j) * (x j)), j + 1, rfl, (by omega), (by omega), ?_, (hF.pick (hF.pick (hF.pick (hF.pick (hF.pick (hF.pick (hF.pick (hF.pick (hF.pick (hF.pick hF.nil 22 rfl) 21 rfl) 15 rfl) 14 rfl) 13 rfl) 8 rfl) 7 rfl) 6 rfl) 2 rfl) 1 rfl), hS⟩
      ·
       rw [dotp_next _ _ j0, ← hy]
     ·
      refine wp_exit ?_
      refine then_exit ?_
      refine then_exit ?_
      refine inb_hit ?_
      refine then_normal ?_
      refine cw_seq ?_
      refine wp_region_lit ?_
      refine ls_val hF (.free rfl) rfl rfl (ex_move rfl rfl) ?_; clear hF a; intro a hF
      refine ls_val hF (.free rfl) rfl rfl (ex_field (b := ⟨g1, 2, none⟩) rfl fd_25_2 rfl rfl) ?_; clear hF a; intro a hF
      refine ls_val hF (.free rfl) rfl rfl (ex_load_blk 0 rfl pl_22 rfl hS rfl rfl) ?_; clear hF a; intro a hF
      refine ls_val hF (.free rfl) rfl rfl (ex_move rfl rfl) ?_; clear hF a; intro a hF
      refine ls_val hF (.free rfl) rfl rfl (ex_index (k := i) rfl sl_22 rfl rfl hL.b.slh (by omega) (by omega) (by omega)) ?_; clear hF a; intro a hF
      refine ls_val hF (.free rfl) rfl rfl (ex_load_row (u := .int .i64 (p.b i)) rfl pl_3 rfl (hL.b.below hS.below) (by omega) (by omega) rfl) ?_; clear hF a; intro a hF
      refine ls_val hF (.free rfl) rfl rfl (ex_lss rfl rfl rfl) ?_; clear hF a; intro a hF
      refine ls_nil ?_
      refine then_normal ?_
      refine cw_if hF rfl (fun hc => ?_) (fun hc => ?_)
      ·
       refine cw_seq ?_
       refine wp_region_lit ?_
       refine ls_val hF (.free rfl) rfl rfl (ex_assign rfl rfl) ?_; clear hF a; intro a hF
       refine ls_val hF (.free rfl) rfl rfl (ex_assign rfl rfl) ?_; clear hF a; intro a hF
       refine ls_nil ?_
       refine then_normal ?_
       refine wp_ret ?_
       refine inb_ret (then_ret (then_ret (inb_ret (then_ret ((fin2 hF rfl rfl rfl ⟨_, rfl, ?_⟩))))))
       have hri2 := (hl.rows i h0 (by omega)).1
       obtain rfl : j = p.ln i := by omega
       exact ⟨_, false, rfl, .inl ⟨⟨i, h0, by omega, by rw [← hri2]; omega⟩, rfl, rfl⟩, hS.sub (.cons _ .slnil)⟩
      ·
       refine wp_skip ?_
       refine inb_normal ?_
       refine then_normal ?_
       refine wp_region_lit ?_
       refine ls_val hF (.free rfl) rfl rfl (ex_add (r := i + 1) rfl rfl rfl (by omega) (by unfold I64; omega)) ?_; clear hF a; intro a hF
       refine ls_val hF (.free rfl) rfl rfl (ex_move rfl rfl) ?_; clear hF a; intro a hF
       refine ls_nil ?_
       refine then_normal ?_
       refine ⟨_, (by omega), i + 1, rfl, (by omega), (by omega), ?_, (hF.pick (hF.pick (hF.pick (hF.pick (hF.pick hF.nil 15 rfl) 14 rfl) 13 rfl) 2 rfl) 1 rfl), hS⟩
       ·
        intro k k0 k1; rcases Int.lt_or_eq_of_le (show k ≤ i by omega) with hk | hk; exact hrw k k0 hk; rw [hk]; have := (hl.rows i h0 (by omega)).1; rw [← this]; obtain rfl : j = p.ln i := by omega
        omega
   ·
    refine wp_exit ?_
    refine then_exit ?_
    refine then_exit ?_
    refine inb_hit ?_
    refine then_normal ?_
    refine cw_seq ?_
    refine wp_region_lit ?_
    refine ls_val hF (.free rfl) rfl rfl (ex_assign rfl rfl) ?_; clear hF a; intro a hF
    refine ls_nil ?_
    refine then_normal ?_
    refine cw_seq ?_
    refine cw_seq ?_
    refine wp_region_lit ?_
    refine ls_val hF (.free rfl) rfl rfl (ex_field (b := ⟨g1, 0, none⟩) rfl fd_25_0 rfl rfl) ?_; clear hF a; intro a hF
    refine ls_val hF (.free rfl) rfl rfl (ex_load_blk 0 rfl pl_22 rfl hS rfl rfl) ?_; clear hF a; intro a hF
    refine ls_val hF (.free rfl) rfl rfl (ex_len rfl sl_22 rfl hL.c.slh) ?_; clear hF a; intro a hF
    refine ls_val hF (.free rfl) rfl rfl (ex_move rfl rfl) ?_; clear hF a; intro a hF
    refine ls_nil ?_
    refine then_normal ?_
    refine wp_block ?_
    refine cw_loop (fun mm a w => ∃ (y : Int) (j2 : Int), mm = ((p.n - j2).toNat) ∧ (0 ≤ j2) ∧ (j2 ≤ p.n) ∧ (y = dotp p.c x j2.toNat) ∧ Fr a 65 [(1, vx), (2, .pointer (some ⟨g1, 0, none⟩)), (10, .int .i64 y), (47, .int .i64 p.n), (48, .int .i64 j2)] ∧ Sat w0 w [.blk g1 [vc, vA, vb]]) ?_ ?_ (m := ((p.n - 0).toNat))
    ·
     refine ⟨0, 0, rfl, (by omega), (by omega), ?_, (hF.pick (hF.pick (hF.pick (hF.pick (hF.pick hF.nil 48 rfl) 47 rfl) 10 rfl) 2 rfl) 1 rfl), hS⟩
     ·
      rfl
    ·
     clear hF hS a w
     rintro mm a w ⟨y, j2, rfl, c0, c1, hy, hF, hS⟩
     refine cw_seq ?_
     refine wp_region_lit ?_
     refine ls_val hF (.free rfl) rfl rfl (ex_lss rfl rfl rfl) ?_; clear hF a; intro a hF
     refine ls_nil ?_
     refine then_normal ?_
     refine cw_seq ?_
     refine cw_if hF rfl (fun hc => ?_) (fun hc => ?_)
     ·
      refine wp_skip ?_
      refine then_normal ?_
      refine cw_seq ?_
      refine wp_block ?_
      refine cw_seq ?_
      refine wp_region_lit ?_
      refine ls_val hF (.free rfl) rfl rfl (ex_move rfl rfl) ?_; clear hF a; intro a hF
      refine ls_val hF (.free rfl) rfl rfl (ex_assign rfl rfl) ?_; clear hF a; intro a hF
      refine ls_nil ?_
      refine then_normal ?_
      refine dr_sat (m0 := [.blk g1 [vc, vA, vb]]) (m1 := [.blk g1 [vc, vA, vb]]) 1000 mx_ hS (.cons_cons _ .slnil) (.cons_cons _ .slnil) rfl ?_; clear hS; intro w hS hcl hB
      refine dr_val hF hcl hB 0 rfl (.free rfl) rfl rfl (by kernel_rfl) rfl (fun w => (ex_move rfl rfl)) ?_; clear hF a hcl hB; intro a hF hcl hB
      refine dr_val hF hcl hB 1 rfl (.free rfl) rfl rfl (by kernel_rfl) rfl (fun w => (ex_field (b := ⟨g1, 0, none⟩) rfl fd_25_0 rfl rfl)) ?_; clear hF a hcl hB; intro a hF hcl hB
      refine dr_loadA hF hcl hB 2 rfl (.free rfl) rfl rfl (by kernel_rfl) rfl (fun w hS => (ex_load_blk 0 rfl pl_22 rfl hS rfl rfl)) ?_; clear hF a hcl hB; intro a hF hcl hB
      refine dr_val hF hcl hB 3 rfl (.free rfl) rfl rfl (by kernel_rfl) rfl (fun w => (ex_move rfl rfl)) ?_; clear hF a hcl hB; intro a hF hcl hB
      refine dr_val hF hcl hB 4 rfl (.free rfl) rfl rfl (by kernel_rfl) rfl (fun w => (ex_index (k := j2) rfl sl_22 rfl rfl hL.c.slh (by omega) (by omega) (by omega))) ?_; clear hF a hcl hB; intro a hF hcl hB
      refine dr_loadA hF hcl hB 5 rfl (.free rfl) rfl rfl (by kernel_rfl) rfl (fun w hS => (ex_load_row (u := .int .i64 (p.c j2)) rfl pl_3 rfl (hL.c.below hS.below) (by omega) (by omega) rfl)) ?_; clear hF a hcl hB; intro a hF hcl hB
      refine dr_val hF hcl hB 6 rfl (.free rfl) rfl rfl (by kernel_rfl) rfl (fun w => (ex_move rfl rfl)) ?_; clear hF a hcl hB; intro a hF hcl hB
      refine dr_val hF hcl hB 7 rfl (.free rfl) rfl rfl (by kernel_rfl) rfl (fun w => (ex_move rfl rfl)) ?_; clear hF a hcl hB; intro a hF hcl hB
      refine dr_val hF hcl hB 8 rfl (.free rfl) rfl rfl (by kernel_rfl) rfl (fun w => (ex_index (k := j2) rfl sl_22 rfl rfl hx.slh (by omega) (by omega) (by omega))) ?_; clear hF a hcl hB; intro a hF hcl hB
      refine dr_loadA hF hcl hB 9 rfl (.free rfl) rfl rfl (by kernel_rfl) rfl (fun w hS => (ex_load_row (u := .int .i64 (x j2)) rfl pl_3 rfl (hx.below hS.below) (by omega) (by omega) rfl)) ?_; clear hF a hcl hB; intro a hF hcl hB
      have hmu := mul_abs (show -1000000 ≤ p.c j2 ∧ p.c j2 ≤ 1000000 by have := hl.c j2 c0 (by omega); omega) (hxb j2 c0 (by omega))
      have hbd := dotp_bd (f := p.c) (g := x) (A := 1000000) (B := 1073741824) (by omega) (by omega) j2.toNat (fun k k0 k1 => by have := hl.c k k0 (by omega); omega) (fun k k0 k1 => hxb k k0 (by omega))
      refine dr_val hF hcl hB 10 rfl (.free rfl) rfl rfl (by kernel_rfl) rfl (fun w => (ex_mul (r := ((p.c j2) * (x j2))) rfl rfl rfl rfl (by unfold I64; omega))) ?_; clear hF a hcl hB; intro a hF hcl hB
      refine dr_val hF hcl hB 11 rfl (.free rfl) rfl rfl (by kernel_rfl) rfl (fun w => (ex_add (r := y + ((p.c j2) * (x j2))) rfl rfl rfl (by omega) (by unfold I64; omega))) ?_; clear hF a hcl hB; intro a hF hcl hB
      refine dr_val hF hcl hB 12 rfl (.free rfl) rfl rfl (by kernel_rfl) rfl (fun w => (ex_assign rfl rfl)) ?_; clear hF a hcl hB; intro a hF hcl hB
      refine dr_done (by kernel_rfl) ?_; clear hcl hB
      refine inb_normal ?_
      refine then_normal ?_
      refine wp_region_lit ?_
      refine ls_val hF (.free rfl) rfl rfl (ex_add (r := j2 + 1) rfl rfl rfl (by omega) (by unfold I64; omega)) ?_; clear hF a; intro a hF
      refine ls_val hF (.free rfl) rfl rfl (ex_move rfl rfl) ?_; clear hF a; intro a hF
      refine ls_nil ?_
      refine then_normal ?_
      refine ⟨_, (by omega), y + ((p.c j2) * (x j2)), j2 + 1, rfl, (by omega), (by omega), ?_, (hF.pick (hF.pick (hF.pick (hF.pick (hF.pick hF.nil 48 rfl) 47 rfl) 10 rfl) 2 rfl) 1 rfl), hS⟩
      ·
       rw [dotp_next _ _ c0, ← hy]
     ·
      refine wp_exit ?_
      refine then_exit ?_
      refine then_exit ?_
      refine inb_hit ?_
      refine then_normal ?_
      refine cw_seq ?_
      refine wp_region_lit ?_
      refine ls_val hF (.free rfl) rfl rfl (ex_move rfl rfl) ?_; clear hF a; intro a hF
      refine ls_val hF (.free rfl) rfl rfl (ex_assign rfl rfl) ?_; clear hF a; intro a hF
      refine ls_val hF (.free rfl) rfl rfl (ex_assign rfl rfl) ?_; clear hF a; intro a hF
      refine ls_nil ?_
      refine then_normal ?_
      refine wp_ret ?_
      refine (fin2 hF rfl rfl rfl ⟨_, rfl, ?_⟩)
      obtain rfl : j2 = p.n := by omega
      exact ⟨_, true, rfl, .inr ⟨fun k k0 k1 => hrw k k0 (by omega), hy, rfl⟩, hS.sub (.cons _ .slnil)⟩

end Go.Proofs.Ytakgjpmhbfieeaa
