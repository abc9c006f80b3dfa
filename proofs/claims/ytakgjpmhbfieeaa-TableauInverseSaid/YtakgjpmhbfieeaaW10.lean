/- The walk of Check, of tableau. -/
import Derived.Test.YtakgjpmhbfieeaaW9
namespace Go.Proofs.Ytakgjpmhbfieeaa
open Go Go.RowKit Go.Proofs.Gw
set_option linter.unusedVariables false

theorem cl_44 : calledT Try.prog 44 = true := by kernel_rfl
theorem cl_45 : calledT Try.prog 45 = true := by kernel_rfl
theorem cl_46 : calledT Try.prog 46 = true := by kernel_rfl
theorem fd_30_2 : fieldT Try.prog 30 2 = some 2 := by kernel_rfl
theorem fd_30_3 : fieldT Try.prog 30 3 = some 3 := by kernel_rfl
set_option maxRecDepth 20000 in
theorem c_check {vc vA vb : Value} {vq : Int → Value} {p : Lp} {vX vY : Value} {s : So} (w0 : World) (hL : LAt w0 vc vA vb vq p) (hX : Row w0 vX 1 s.n (ints s.X)) (hY : Row w0 vY 1 s.m (ints s.Y)) :
    Calls Try.prog 18 [.agg #[vc, vA, vb], .agg #[vX, vY, .int .i64 s.val, .int .i64 s.den]].toArray w0 fun e w => ∃ v, e = .returned v ∧ v = B (ChkS p s) ∧ Sat w0 w [] := by
  have hn := hL.c.slh.n0; have hn1 := hL.c.slh.n1; have hm := hL.A.row.slh.n0; have hm1 := hL.A.row.slh.n1; have hk := hL.b.slh.n0; have hk1 := hL.b.slh.n1
  refine enterS (vs := [.agg #[vc, vA, vb], .agg #[vX, vY, .int .i64 s.val, .int .i64 s.den]]) Try.func18 rfl Try.ntmps18 rfl ?_
  intro a w hS hF
  refine cw_seq ?_
  refine wp_region_lit ?_
  refine ls_any hF (.free rfl) rfl rfl (ex_box (cs := [vc, vA, vb]) rfl hS rfl rfl) ?_; clear hF; rintro _ w ⟨g1, rfl, hS⟩ a hF
  replace hS : Sat w0 w [.blk g1 [vc, vA, vb]] := hS
  refine ls_any hF (.free rfl) rfl rfl (ex_box (cs := [vX, vY, .int .i64 s.val, .int .i64 s.den]) rfl hS rfl rfl) ?_; clear hF; rintro _ w ⟨g2, rfl, hS⟩ a hF
  replace hS : Sat w0 w [.blk g1 [vc, vA, vb], .blk g2 [vX, vY, .int .i64 s.val, .int .i64 s.den]] := hS
  refine ls_val hF (.free rfl) rfl rfl (ex_assign rfl rfl) ?_; clear hF a; intro a hF
  refine ls_nil ?_
  refine then_normal ?_
  refine cw_seq ?_
  refine cw_seq ?_
  refine wp_region_lit ?_
  refine ls_val hF (.free rfl) rfl rfl (ex_loads_blk 0 rfl st_34 rfl hS rfl rfl) ?_; clear hF a; intro a hF
  refine ls_call hF (.free rfl) rfl rfl (ex_call0 rfl rfl cl_36 (args_cons rfl args0)) (c_valid (p := p) w (hL.below hS.below)) ?_; clear hF; rintro _ w ⟨rfl, hS'⟩ a hF
  replace hS : Sat w0 w [.blk g1 [vc, vA, vb], .blk g2 [vX, vY, .int .i64 s.val, .int .i64 s.den]] := hS.comp hS'; clear hS'
  refine ls_val hF (.free rfl) rfl rfl (ex_not rfl rfl) ?_; clear hF a; intro a hF
  refine ls_val hF (.free rfl) rfl rfl (ex_move rfl rfl) ?_; clear hF a; intro a hF
  refine by_slot hF (d := 12) rfl ?_ ?_ <;> clear hF <;> intro hc hF
  ·
   refine ls_off hF (.on rfl rfl rfl rfl rfl) rfl rfl ?_; clear hF a; intro a hF
   refine ls_off hF (.on rfl rfl rfl rfl rfl) rfl rfl ?_; clear hF a; intro a hF
   refine ls_off hF (.on rfl rfl rfl rfl rfl) rfl rfl ?_; clear hF a; intro a hF
   refine ls_val hF (.free rfl) rfl rfl (ex_pick_t rfl rfl rfl) ?_; clear hF a; intro a hF
   refine ls_val hF (.free rfl) rfl rfl (ex_move rfl rfl) ?_; clear hF a; intro a hF
   refine ls_off hF (.on rfl rfl rfl rfl rfl) rfl rfl ?_; clear hF a; intro a hF
   refine ls_off hF (.on rfl rfl rfl rfl rfl) rfl rfl ?_; clear hF a; intro a hF
   refine ls_off hF (.on rfl rfl rfl rfl rfl) rfl rfl ?_; clear hF a; intro a hF
   refine ls_val hF (.free rfl) rfl rfl (ex_pick_t rfl rfl rfl) ?_; clear hF a; intro a hF
   refine ls_val hF (.free rfl) rfl rfl (ex_move rfl rfl) ?_; clear hF a; intro a hF
   refine ls_off hF (.on rfl rfl rfl rfl rfl) rfl rfl ?_; clear hF a; intro a hF
   refine ls_off hF (.on rfl rfl rfl rfl rfl) rfl rfl ?_; clear hF a; intro a hF
   refine ls_off hF (.on rfl rfl rfl rfl rfl) rfl rfl ?_; clear hF a; intro a hF
   refine ls_off hF (.on rfl rfl rfl rfl rfl) rfl rfl ?_; clear hF a; intro a hF
   refine ls_off hF (.on rfl rfl rfl rfl rfl) rfl rfl ?_; clear hF a; intro a hF
   refine ls_val hF (.free rfl) rfl rfl (ex_pick_t rfl rfl rfl) ?_; clear hF a; intro a hF
   refine ls_val hF (.free rfl) rfl rfl (ex_move rfl rfl) ?_; clear hF a; intro a hF
   refine ls_off hF (.on rfl rfl rfl rfl rfl) rfl rfl ?_; clear hF a; intro a hF
   refine ls_off hF (.on rfl rfl rfl rfl rfl) rfl rfl ?_; clear hF a; intro a hF
   refine ls_off hF (.on rfl rfl rfl rfl rfl) rfl rfl ?_; clear hF a; intro a hF
   refine ls_off hF (.on rfl rfl rfl rfl rfl) rfl rfl ?_; clear hF a; intro a hF
   refine ls_off hF (.on rfl rfl rfl rfl rfl) rfl rfl ?_; clear hF a; intro a hF
   refine ls_off hF (.on rfl rfl rfl rfl rfl) rfl rfl ?_; clear hF a; intro a hF
   refine ls_off hF (.on rfl rfl rfl rfl rfl) rfl rfl ?_; clear hF a; intro a hF
   refine ls_val hF (.free rfl) rfl rfl (ex_pick_t rfl rfl rfl) ?_; clear hF a; intro a hF
   refine ls_val hF (.free rfl) rfl rfl (ex_move rfl rfl) ?_; clear hF a; intro a hF
   refine ls_off hF (.on rfl rfl rfl rfl rfl) rfl rfl ?_; clear hF a; intro a hF
   refine ls_off hF (.on rfl rfl rfl rfl rfl) rfl rfl ?_; clear hF a; intro a hF
   refine ls_off hF (.on rfl rfl rfl rfl rfl) rfl rfl ?_; clear hF a; intro a hF
   refine ls_off hF (.on rfl rfl rfl rfl rfl) rfl rfl ?_; clear hF a; intro a hF
   refine ls_off hF (.on rfl rfl rfl rfl rfl) rfl rfl ?_; clear hF a; intro a hF
   refine ls_off hF (.on rfl rfl rfl rfl rfl) rfl rfl ?_; clear hF a; intro a hF
   refine ls_off hF (.on rfl rfl rfl rfl rfl) rfl rfl ?_; clear hF a; intro a hF
   refine ls_val hF (.free rfl) rfl rfl (ex_pick_t rfl rfl rfl) ?_; clear hF a; intro a hF
   refine ls_nil ?_
   refine then_normal ?_
   refine cw_t hF rfl ?_
   refine cw_seq ?_
   refine wp_region_lit ?_
   refine ls_val hF (.free rfl) rfl rfl (ex_assign rfl rfl) ?_; clear hF a; intro a hF
   refine ls_nil ?_
   refine then_normal ?_
   refine wp_ret ?_
   refine then_ret ((fin1 hF rfl rfl ⟨_, rfl, ?_⟩))
   exact ⟨false_B (fun hk => by
    have e1 := hk.d1; have e2 := hk.d2; have e3 := hk.n; have e4 := hk.m; have e5 := hk.cX; have e6 := hk.bY
    first
    | omega
    | exact absurd hk.ok ‹¬ LOk p›
    | exact absurd (show Btw (fun x => s.val) 1 1073741824 from fun k k0 k1 => hk.v) ‹¬ Btw (fun x => s.val) 1 1073741824›
    | exact absurd ⟨hk.n, hk.X⟩ ‹¬ (s.n = p.n ∧ ∀ k, 0 ≤ k → k < p.n → 0 ≤ s.X k ∧ s.X k ≤ 1073741824)›
    | exact absurd ⟨hk.m, hk.Y⟩ ‹¬ (s.m = p.m ∧ ∀ k, 0 ≤ k → k < p.m → 0 ≤ s.Y k ∧ s.Y k ≤ 1073741824)›
    | (have e7 := hk.rows i h0 (by omega); have e8 := (hl.rows i h0 (by omega)).1; rw [← e8] at e7; omega)
    | (have e7 := hk.cols j j0 (by omega); omega)
    | (rw [b4] at *; omega)), hS.sub (.cons _ (.cons _ .slnil))⟩
  ·
   refine ls_val hF (.on rfl rfl rfl rfl rfl) rfl rfl (ex_field (b := ⟨g2, 3, none⟩) rfl fd_30_3 rfl rfl) ?_; clear hF a; intro a hF
   refine ls_val hF (.on rfl rfl rfl rfl rfl) rfl rfl (ex_load_blk 1 rfl pl_3 rfl hS rfl rfl) ?_; clear hF a; intro a hF
   refine ls_val hF (.on rfl rfl rfl rfl rfl) rfl rfl (ex_lss rfl rfl rfl) ?_; clear hF a; intro a hF
   refine ls_val hF (.free rfl) rfl rfl (ex_pick_f rfl rfl rfl) ?_; clear hF a; intro a hF
   refine ls_val hF (.free rfl) rfl rfl (ex_move rfl rfl) ?_; clear hF a; intro a hF
   refine by_slot hF (d := 17) rfl ?_ ?_ <;> clear hF <;> intro hc hF
   ·
    refine ls_off hF (.on rfl rfl rfl rfl rfl) rfl rfl ?_; clear hF a; intro a hF
    refine ls_off hF (.on rfl rfl rfl rfl rfl) rfl rfl ?_; clear hF a; intro a hF
    refine ls_off hF (.on rfl rfl rfl rfl rfl) rfl rfl ?_; clear hF a; intro a hF
    refine ls_val hF (.free rfl) rfl rfl (ex_pick_t rfl rfl rfl) ?_; clear hF a; intro a hF
    refine ls_val hF (.free rfl) rfl rfl (ex_move rfl rfl) ?_; clear hF a; intro a hF
    refine ls_off hF (.on rfl rfl rfl rfl rfl) rfl rfl ?_; clear hF a; intro a hF
    refine ls_off hF (.on rfl rfl rfl rfl rfl) rfl rfl ?_; clear hF a; intro a hF
    refine ls_off hF (.on rfl rfl rfl rfl rfl) rfl rfl ?_; clear hF a; intro a hF
    refine ls_off hF (.on rfl rfl rfl rfl rfl) rfl rfl ?_; clear hF a; intro a hF
    refine ls_off hF (.on rfl rfl rfl rfl rfl) rfl rfl ?_; clear hF a; intro a hF
    refine ls_val hF (.free rfl) rfl rfl (ex_pick_t rfl rfl rfl) ?_; clear hF a; intro a hF
    refine ls_val hF (.free rfl) rfl rfl (ex_move rfl rfl) ?_; clear hF a; intro a hF
    refine ls_off hF (.on rfl rfl rfl rfl rfl) rfl rfl ?_; clear hF a; intro a hF
    refine ls_off hF (.on rfl rfl rfl rfl rfl) rfl rfl ?_; clear hF a; intro a hF
    refine ls_off hF (.on rfl rfl rfl rfl rfl) rfl rfl ?_; clear hF a; intro a hF
    refine ls_off hF (.on rfl rfl rfl rfl rfl) rfl rfl ?_; clear hF a; intro a hF
    refine ls_off hF (.on rfl rfl rfl rfl rfl) rfl rfl ?_; clear hF a; intro a hF
    refine ls_off hF (.on rfl rfl rfl rfl rfl) rfl rfl ?_; clear hF a; intro a hF
    refine ls_off hF (.on rfl rfl rfl rfl rfl) rfl rfl ?_; clear hF a; intro a hF
    refine ls_val hF (.free rfl) rfl rfl (ex_pick_t rfl rfl rfl) ?_; clear hF a; intro a hF
    refine ls_val hF (.free rfl) rfl rfl (ex_move rfl rfl) ?_; clear hF a; intro a hF
    refine ls_off hF (.on rfl rfl rfl rfl rfl) rfl rfl ?_; clear hF a; intro a hF
    refine ls_off hF (.on rfl rfl rfl rfl rfl) rfl rfl ?_; clear hF a; intro a hF
    refine ls_off hF (.on rfl rfl rfl rfl rfl) rfl rfl ?_; clear hF a; intro a hF
    refine ls_off hF (.on rfl rfl rfl rfl rfl) rfl rfl ?_; clear hF a; intro a hF
    refine ls_off hF (.on rfl rfl rfl rfl rfl) rfl rfl ?_; clear hF a; intro a hF
    refine ls_off hF (.on rfl rfl rfl rfl rfl) rfl rfl ?_; clear hF a; intro a hF
    refine ls_off hF (.on rfl rfl rfl rfl rfl) rfl rfl ?_; clear hF a; intro a hF
    refine ls_val hF (.free rfl) rfl rfl (ex_pick_t rfl rfl rfl) ?_; clear hF a; intro a hF
    refine ls_nil ?_
    refine then_normal ?_
    refine cw_t hF rfl ?_
    refine cw_seq ?_
    refine wp_region_lit ?_
    refine ls_val hF (.free rfl) rfl rfl (ex_assign rfl rfl) ?_; clear hF a; intro a hF
    refine ls_nil ?_
    refine then_normal ?_
    refine wp_ret ?_
    refine then_ret ((fin1 hF rfl rfl ⟨_, rfl, ?_⟩))
    exact ⟨false_B (fun hk => by
     have e1 := hk.d1; have e2 := hk.d2; have e3 := hk.n; have e4 := hk.m; have e5 := hk.cX; have e6 := hk.bY
     first
     | omega
     | exact absurd hk.ok ‹¬ LOk p›
     | exact absurd (show Btw (fun x => s.val) 1 1073741824 from fun k k0 k1 => hk.v) ‹¬ Btw (fun x => s.val) 1 1073741824›
     | exact absurd ⟨hk.n, hk.X⟩ ‹¬ (s.n = p.n ∧ ∀ k, 0 ≤ k → k < p.n → 0 ≤ s.X k ∧ s.X k ≤ 1073741824)›
     | exact absurd ⟨hk.m, hk.Y⟩ ‹¬ (s.m = p.m ∧ ∀ k, 0 ≤ k → k < p.m → 0 ≤ s.Y k ∧ s.Y k ≤ 1073741824)›
     | (have e7 := hk.rows i h0 (by omega); have e8 := (hl.rows i h0 (by omega)).1; rw [← e8] at e7; omega)
     | (have e7 := hk.cols j j0 (by omega); omega)
     | (rw [b4] at *; omega)), hS.sub (.cons _ (.cons _ .slnil))⟩
   ·
    refine ls_val hF (.on rfl rfl rfl rfl rfl) rfl rfl (ex_field (b := ⟨g2, 3, none⟩) rfl fd_30_3 rfl rfl) ?_; clear hF a; intro a hF
    refine ls_val hF (.on rfl rfl rfl rfl rfl) rfl rfl (ex_load_blk 1 rfl pl_3 rfl hS rfl rfl) ?_; clear hF a; intro a hF
    refine ls_val hF (.on rfl rfl rfl rfl rfl) rfl rfl (ex_gtr rfl rfl rfl) ?_; clear hF a; intro a hF
    refine ls_val hF (.free rfl) rfl rfl (ex_pick_f rfl rfl rfl) ?_; clear hF a; intro a hF
    refine ls_val hF (.free rfl) rfl rfl (ex_move rfl rfl) ?_; clear hF a; intro a hF
    refine by_slot hF (d := 22) rfl ?_ ?_ <;> clear hF <;> intro hc hF
    ·
     refine ls_off hF (.on rfl rfl rfl rfl rfl) rfl rfl ?_; clear hF a; intro a hF
     refine ls_off hF (.on rfl rfl rfl rfl rfl) rfl rfl ?_; clear hF a; intro a hF
     refine ls_off hF (.on rfl rfl rfl rfl rfl) rfl rfl ?_; clear hF a; intro a hF
     refine ls_off hF (.on rfl rfl rfl rfl rfl) rfl rfl ?_; clear hF a; intro a hF
     refine ls_off hF (.on rfl rfl rfl rfl rfl) rfl rfl ?_; clear hF a; intro a hF
     refine ls_val hF (.free rfl) rfl rfl (ex_pick_t rfl rfl rfl) ?_; clear hF a; intro a hF
     refine ls_val hF (.free rfl) rfl rfl (ex_move rfl rfl) ?_; clear hF a; intro a hF
     refine ls_off hF (.on rfl rfl rfl rfl rfl) rfl rfl ?_; clear hF a; intro a hF
     refine ls_off hF (.on rfl rfl rfl rfl rfl) rfl rfl ?_; clear hF a; intro a hF
     refine ls_off hF (.on rfl rfl rfl rfl rfl) rfl rfl ?_; clear hF a; intro a hF
     refine ls_off hF (.on rfl rfl rfl rfl rfl) rfl rfl ?_; clear hF a; intro a hF
     refine ls_off hF (.on rfl rfl rfl rfl rfl) rfl rfl ?_; clear hF a; intro a hF
     refine ls_off hF (.on rfl rfl rfl rfl rfl) rfl rfl ?_; clear hF a; intro a hF
     refine ls_off hF (.on rfl rfl rfl rfl rfl) rfl rfl ?_; clear hF a; intro a hF
     refine ls_val hF (.free rfl) rfl rfl (ex_pick_t rfl rfl rfl) ?_; clear hF a; intro a hF
     refine ls_val hF (.free rfl) rfl rfl (ex_move rfl rfl) ?_; clear hF a; intro a hF
     refine ls_off hF (.on rfl rfl rfl rfl rfl) rfl rfl ?_; clear hF a; intro a hF
     refine ls_off hF (.on rfl rfl rfl rfl rfl) rfl rfl ?_; clear hF a; intro a hF
     refine ls_off hF (.on rfl rfl rfl rfl rfl) rfl rfl ?_; clear hF a; intro a hF
     refine ls_off hF (.on rfl rfl rfl rfl rfl) rfl rfl ?_; clear hF a; intro a hF
     refine ls_off hF (.on rfl rfl rfl rfl rfl) rfl rfl ?_; clear hF a; intro a hF
     refine ls_off hF (.on rfl rfl rfl rfl rfl) rfl rfl ?_; clear hF a; intro a hF
     refine ls_off hF (.on rfl rfl rfl rfl rfl) rfl rfl ?_; clear hF a; intro a hF
     refine ls_val hF (.free rfl) rfl rfl (ex_pick_t rfl rfl rfl) ?_; clear hF a; intro a hF
     refine ls_nil ?_
     refine then_normal ?_
     refine cw_t hF rfl ?_
     refine cw_seq ?_
     refine wp_region_lit ?_
     refine ls_val hF (.free rfl) rfl rfl (ex_assign rfl rfl) ?_; clear hF a; intro a hF
     refine ls_nil ?_
     refine then_normal ?_
     refine wp_ret ?_
     refine then_ret ((fin1 hF rfl rfl ⟨_, rfl, ?_⟩))
     exact ⟨false_B (fun hk => by
      have e1 := hk.d1; have e2 := hk.d2; have e3 := hk.n; have e4 := hk.m; have e5 := hk.cX; have e6 := hk.bY
      first
      | omega
      | exact absurd hk.ok ‹¬ LOk p›
      | exact absurd (show Btw (fun x => s.val) 1 1073741824 from fun k k0 k1 => hk.v) ‹¬ Btw (fun x => s.val) 1 1073741824›
      | exact absurd ⟨hk.n, hk.X⟩ ‹¬ (s.n = p.n ∧ ∀ k, 0 ≤ k → k < p.n → 0 ≤ s.X k ∧ s.X k ≤ 1073741824)›
      | exact absurd ⟨hk.m, hk.Y⟩ ‹¬ (s.m = p.m ∧ ∀ k, 0 ≤ k → k < p.m → 0 ≤ s.Y k ∧ s.Y k ≤ 1073741824)›
      | (have e7 := hk.rows i h0 (by omega); have e8 := (hl.rows i h0 (by omega)).1; rw [← e8] at e7; omega)
      | (have e7 := hk.cols j j0 (by omega); omega)
      | (rw [b4] at *; omega)), hS.sub (.cons _ (.cons _ .slnil))⟩
    ·
     refine ls_val hF (.on rfl rfl rfl rfl rfl) rfl rfl (ex_field (b := ⟨g2, 2, none⟩) rfl fd_30_2 rfl rfl) ?_; clear hF a; intro a hF
     refine ls_val hF (.on rfl rfl rfl rfl rfl) rfl rfl (ex_load_blk 1 rfl pl_3 rfl hS rfl rfl) ?_; clear hF a; intro a hF
     refine ls_any hF (.on rfl rfl rfl rfl rfl) rfl rfl (ex_lit (n := 1) (len := 1) (pv := [(0, .int .i64 s.val)]) (cs := [.int .i64 s.val]) (c := ints (fun _ => s.val)) rfl sl_22 el_3 hS (parts_cons rfl parts0) (by kernel_rfl) (by decide) (by decide) rfl rfl (fun k hk => by rcases k with _ | k <;> first | rfl | (exfalso; omega)) (by omega)) ?_; clear hF; rintro v1 w ⟨hS, hv1⟩ a hF
     replace hS : Sat w0 w [.blk g1 [vc, vA, vb], .blk g2 [vX, vY, .int .i64 s.val, .int .i64 s.den], .own v1 1 3 1 (ints (fun _ => s.val))] := hS
     refine ls_call hF (.on rfl rfl rfl rfl rfl) rfl rfl (ex_call0 rfl rfl cl_43 (args_cons rfl (args_cons rfl args0))) (c_between (n := 1) (m := 1073741824) (f := (fun _ => s.val)) w (hS.rowN 2 rfl) (by omega)) ?_; clear hF; rintro _ w ⟨rfl, hS'⟩ a hF
     replace hS : Sat w0 w [.blk g1 [vc, vA, vb], .blk g2 [vX, vY, .int .i64 s.val, .int .i64 s.den], .own v1 1 3 1 (ints (fun _ => s.val))] := hS.comp hS'; clear hS'
     refine ls_val hF (.on rfl rfl rfl rfl rfl) rfl rfl (ex_not rfl rfl) ?_; clear hF a; intro a hF
     refine ls_val hF (.free rfl) rfl rfl (ex_pick_f rfl rfl rfl) ?_; clear hF a; intro a hF
     refine ls_val hF (.free rfl) rfl rfl (ex_move rfl rfl) ?_; clear hF a; intro a hF
     refine by_slot hF (d := 29) rfl ?_ ?_ <;> clear hF <;> intro hc hF
     ·
      refine ls_off hF (.on rfl rfl rfl rfl rfl) rfl rfl ?_; clear hF a; intro a hF
      refine ls_off hF (.on rfl rfl rfl rfl rfl) rfl rfl ?_; clear hF a; intro a hF
      refine ls_off hF (.on rfl rfl rfl rfl rfl) rfl rfl ?_; clear hF a; intro a hF
      refine ls_off hF (.on rfl rfl rfl rfl rfl) rfl rfl ?_; clear hF a; intro a hF
      refine ls_off hF (.on rfl rfl rfl rfl rfl) rfl rfl ?_; clear hF a; intro a hF
      refine ls_off hF (.on rfl rfl rfl rfl rfl) rfl rfl ?_; clear hF a; intro a hF
      refine ls_off hF (.on rfl rfl rfl rfl rfl) rfl rfl ?_; clear hF a; intro a hF
      refine ls_val hF (.free rfl) rfl rfl (ex_pick_t rfl rfl rfl) ?_; clear hF a; intro a hF
      refine ls_val hF (.free rfl) rfl rfl (ex_move rfl rfl) ?_; clear hF a; intro a hF
      refine ls_off hF (.on rfl rfl rfl rfl rfl) rfl rfl ?_; clear hF a; intro a hF
      refine ls_off hF (.on rfl rfl rfl rfl rfl) rfl rfl ?_; clear hF a; intro a hF
      refine ls_off hF (.on rfl rfl rfl rfl rfl) rfl rfl ?_; clear hF a; intro a hF
      refine ls_off hF (.on rfl rfl rfl rfl rfl) rfl rfl ?_; clear hF a; intro a hF
      refine ls_off hF (.on rfl rfl rfl rfl rfl) rfl rfl ?_; clear hF a; intro a hF
      refine ls_off hF (.on rfl rfl rfl rfl rfl) rfl rfl ?_; clear hF a; intro a hF
      refine ls_off hF (.on rfl rfl rfl rfl rfl) rfl rfl ?_; clear hF a; intro a hF
      refine ls_val hF (.free rfl) rfl rfl (ex_pick_t rfl rfl rfl) ?_; clear hF a; intro a hF
      refine ls_nil ?_
      refine then_normal ?_
      refine cw_t hF rfl ?_
      refine cw_seq ?_
      refine wp_region_lit ?_
      refine ls_val hF (.free rfl) rfl rfl (ex_assign rfl rfl) ?_; clear hF a; intro a hF
      refine ls_nil ?_
      refine then_normal ?_
      refine wp_ret ?_
      refine then_ret ((fin1 hF rfl rfl ⟨_, rfl, ?_⟩))
      exact ⟨false_B (fun hk => by
       have e1 := hk.d1; have e2 := hk.d2; have e3 := hk.n; have e4 := hk.m; have e5 := hk.cX; have e6 := hk.bY
       first
       | omega
       | exact absurd hk.ok ‹¬ LOk p›
       | exact absurd (show Btw (fun x => s.val) 1 1073741824 from fun k k0 k1 => hk.v) ‹¬ Btw (fun x => s.val) 1 1073741824›
       | exact absurd ⟨hk.n, hk.X⟩ ‹¬ (s.n = p.n ∧ ∀ k, 0 ≤ k → k < p.n → 0 ≤ s.X k ∧ s.X k ≤ 1073741824)›
       | exact absurd ⟨hk.m, hk.Y⟩ ‹¬ (s.m = p.m ∧ ∀ k, 0 ≤ k → k < p.m → 0 ≤ s.Y k ∧ s.Y k ≤ 1073741824)›
       | (have e7 := hk.rows i h0 (by omega); have e8 := (hl.rows i h0 (by omega)).1; rw [← e8] at e7; omega)
       | (have e7 := hk.cols j j0 (by omega); omega)
       | (rw [b4] at *; omega)), hS.sub (.cons _ (.cons _ (.cons _ .slnil)))⟩
     ·
      refine ls_val hF (.on rfl rfl rfl rfl rfl) rfl rfl (ex_field (b := ⟨g2, 0, none⟩) rfl fd_30_0 rfl rfl) ?_; clear hF a; intro a hF
      refine ls_val hF (.on rfl rfl rfl rfl rfl) rfl rfl (ex_load_blk 1 rfl pl_22 rfl hS rfl rfl) ?_; clear hF a; intro a hF
      refine ls_val hF (.on rfl rfl rfl rfl rfl) rfl rfl (ex_field (b := ⟨g1, 0, none⟩) rfl fd_34_0 rfl rfl) ?_; clear hF a; intro a hF
      refine ls_val hF (.on rfl rfl rfl rfl rfl) rfl rfl (ex_load_blk 0 rfl pl_22 rfl hS rfl rfl) ?_; clear hF a; intro a hF
      refine ls_val hF (.on rfl rfl rfl rfl rfl) rfl rfl (ex_len rfl sl_22 rfl hL.c.slh) ?_; clear hF a; intro a hF
      refine ls_call hF (.on rfl rfl rfl rfl rfl) rfl rfl (ex_call0 rfl rfl cl_44 (args_cons rfl (args_cons rfl args0))) (c_positive (m := s.n) (n := p.n) (f := s.X) w (hX.below hS.below)) ?_; clear hF; rintro _ w ⟨rfl, hS'⟩ a hF
      replace hS : Sat w0 w [.blk g1 [vc, vA, vb], .blk g2 [vX, vY, .int .i64 s.val, .int .i64 s.den], .own v1 1 3 1 (ints (fun _ => s.val))] := hS.comp hS'; clear hS'
      refine ls_val hF (.on rfl rfl rfl rfl rfl) rfl rfl (ex_not rfl rfl) ?_; clear hF a; intro a hF
      refine ls_val hF (.free rfl) rfl rfl (ex_pick_f rfl rfl rfl) ?_; clear hF a; intro a hF
      refine ls_val hF (.free rfl) rfl rfl (ex_move rfl rfl) ?_; clear hF a; intro a hF
      refine by_slot hF (d := 38) rfl ?_ ?_ <;> clear hF <;> intro hc hF
      ·
       refine ls_off hF (.on rfl rfl rfl rfl rfl) rfl rfl ?_; clear hF a; intro a hF
       refine ls_off hF (.on rfl rfl rfl rfl rfl) rfl rfl ?_; clear hF a; intro a hF
       refine ls_off hF (.on rfl rfl rfl rfl rfl) rfl rfl ?_; clear hF a; intro a hF
       refine ls_off hF (.on rfl rfl rfl rfl rfl) rfl rfl ?_; clear hF a; intro a hF
       refine ls_off hF (.on rfl rfl rfl rfl rfl) rfl rfl ?_; clear hF a; intro a hF
       refine ls_off hF (.on rfl rfl rfl rfl rfl) rfl rfl ?_; clear hF a; intro a hF
       refine ls_off hF (.on rfl rfl rfl rfl rfl) rfl rfl ?_; clear hF a; intro a hF
       refine ls_val hF (.free rfl) rfl rfl (ex_pick_t rfl rfl rfl) ?_; clear hF a; intro a hF
       refine ls_nil ?_
       refine then_normal ?_
       refine cw_t hF rfl ?_
       refine cw_seq ?_
       refine wp_region_lit ?_
       refine ls_val hF (.free rfl) rfl rfl (ex_assign rfl rfl) ?_; clear hF a; intro a hF
       refine ls_nil ?_
       refine then_normal ?_
       refine wp_ret ?_
       refine then_ret ((fin1 hF rfl rfl ⟨_, rfl, ?_⟩))
       exact ⟨false_B (fun hk => by
        have e1 := hk.d1; have e2 := hk.d2; have e3 := hk.n; have e4 := hk.m; have e5 := hk.cX; have e6 := hk.bY
        first
        | omega
        | exact absurd hk.ok ‹¬ LOk p›
        | exact absurd (show Btw (fun x => s.val) 1 1073741824 from fun k k0 k1 => hk.v) ‹¬ Btw (fun x => s.val) 1 1073741824›
        | exact absurd ⟨hk.n, hk.X⟩ ‹¬ (s.n = p.n ∧ ∀ k, 0 ≤ k → k < p.n → 0 ≤ s.X k ∧ s.X k ≤ 1073741824)›
        | exact absurd ⟨hk.m, hk.Y⟩ ‹¬ (s.m = p.m ∧ ∀ k, 0 ≤ k → k < p.m → 0 ≤ s.Y k ∧ s.Y k ≤ 1073741824)›
        | (have e7 := hk.rows i h0 (by omega); have e8 := (hl.rows i h0 (by omega)).1; rw [← e8] at e7; omega)
        | (have e7 := hk.cols j j0 (by omega); omega)
        | (rw [b4] at *; omega)), hS.sub (.cons _ (.cons _ (.cons _ .slnil)))⟩
      ·
       refine ls_val hF (.on rfl rfl rfl rfl rfl) rfl rfl (ex_field (b := ⟨g2, 1, none⟩) rfl fd_30_1 rfl rfl) ?_; clear hF a; intro a hF
       refine ls_val hF (.on rfl rfl rfl rfl rfl) rfl rfl (ex_load_blk 1 rfl pl_22 rfl hS rfl rfl) ?_; clear hF a; intro a hF
       refine ls_val hF (.on rfl rfl rfl rfl rfl) rfl rfl (ex_field (b := ⟨g1, 1, none⟩) rfl fd_34_1 rfl rfl) ?_; clear hF a; intro a hF
       refine ls_val hF (.on rfl rfl rfl rfl rfl) rfl rfl (ex_load_blk 0 rfl pl_23 rfl hS rfl rfl) ?_; clear hF a; intro a hF
       refine ls_val hF (.on rfl rfl rfl rfl rfl) rfl rfl (ex_len rfl sl_23 rfl hL.A.row.slh) ?_; clear hF a; intro a hF
       refine ls_call hF (.on rfl rfl rfl rfl rfl) rfl rfl (ex_call0 rfl rfl cl_44 (args_cons rfl (args_cons rfl args0))) (c_positive (m := s.m) (n := p.m) (f := s.Y) w (hY.below hS.below)) ?_; clear hF; rintro _ w ⟨rfl, hS'⟩ a hF
       replace hS : Sat w0 w [.blk g1 [vc, vA, vb], .blk g2 [vX, vY, .int .i64 s.val, .int .i64 s.den], .own v1 1 3 1 (ints (fun _ => s.val))] := hS.comp hS'; clear hS'
       refine ls_val hF (.on rfl rfl rfl rfl rfl) rfl rfl (ex_not rfl rfl) ?_; clear hF a; intro a hF
       refine ls_val hF (.free rfl) rfl rfl (ex_pick_f rfl rfl rfl) ?_; clear hF a; intro a hF
       refine ls_nil ?_
       refine then_normal ?_
       refine cw_if hF rfl (fun hc => ?_) (fun hc => ?_)
       ·
        refine cw_seq ?_
        refine wp_region_lit ?_
        refine ls_val hF (.free rfl) rfl rfl (ex_assign rfl rfl) ?_; clear hF a; intro a hF
        refine ls_nil ?_
        refine then_normal ?_
        refine wp_ret ?_
        refine then_ret ((fin1 hF rfl rfl ⟨_, rfl, ?_⟩))
        exact ⟨false_B (fun hk => by
         have e1 := hk.d1; have e2 := hk.d2; have e3 := hk.n; have e4 := hk.m; have e5 := hk.cX; have e6 := hk.bY
         first
         | omega
         | exact absurd hk.ok ‹¬ LOk p›
         | exact absurd (show Btw (fun x => s.val) 1 1073741824 from fun k k0 k1 => hk.v) ‹¬ Btw (fun x => s.val) 1 1073741824›
         | exact absurd ⟨hk.n, hk.X⟩ ‹¬ (s.n = p.n ∧ ∀ k, 0 ≤ k → k < p.n → 0 ≤ s.X k ∧ s.X k ≤ 1073741824)›
         | exact absurd ⟨hk.m, hk.Y⟩ ‹¬ (s.m = p.m ∧ ∀ k, 0 ≤ k → k < p.m → 0 ≤ s.Y k ∧ s.Y k ≤ 1073741824)›
         | (have e7 := hk.rows i h0 (by omega); have e8 := (hl.rows i h0 (by omega)).1; rw [← e8] at e7; omega)
         | (have e7 := hk.cols j j0 (by omega); omega)
         | (rw [b4] at *; omega)), hS.sub (.cons _ (.cons _ (.cons _ .slnil)))⟩
       ·
        refine wp_skip ?_
        refine then_normal ?_
        refine cw_seq ?_
        refine cw_seq ?_
        refine wp_region_lit ?_
        refine ls_val hF (.free rfl) rfl rfl (ex_field (b := ⟨g1, 1, none⟩) rfl fd_34_1 rfl rfl) ?_; clear hF a; intro a hF
        refine ls_val hF (.free rfl) rfl rfl (ex_load_blk 0 rfl pl_23 rfl hS rfl rfl) ?_; clear hF a; intro a hF
        refine ls_val hF (.free rfl) rfl rfl (ex_len rfl sl_23 rfl hL.A.row.slh) ?_; clear hF a; intro a hF
        have hl : LOk p := by first | assumption | exact Classical.not_not.1 ‹¬ ¬ (LOk p)›
        have b1 := hl.n1; have b2 := hl.n2; have b3 := hl.m2; have b4 := hl.k
        have hpx : s.n = p.n ∧ ∀ k, 0 ≤ k → k < p.n → 0 ≤ s.X k ∧ s.X k ≤ 1073741824 := by first | assumption | exact Classical.not_not.1 ‹¬ ¬ (s.n = p.n ∧ ∀ k, 0 ≤ k → k < p.n → 0 ≤ s.X k ∧ s.X k ≤ 1073741824)›
        have hpy : s.m = p.m ∧ ∀ k, 0 ≤ k → k < p.m → 0 ≤ s.Y k ∧ s.Y k ≤ 1073741824 := by first | assumption | exact Classical.not_not.1 ‹¬ ¬ (s.m = p.m ∧ ∀ k, 0 ≤ k → k < p.m → 0 ≤ s.Y k ∧ s.Y k ≤ 1073741824)›
        have hbv : Btw (fun x => s.val) 1 1073741824 := by first | assumption | exact Classical.not_not.1 ‹¬ ¬ (Btw (fun x => s.val) 1 1073741824)›
        have hvv : -1073741824 ≤ s.val ∧ s.val ≤ 1073741824 := hbv 0 (by omega) (by omega)
        have hpx1 := hpx.1; have hpy1 := hpy.1
        have hyb : ∀ k, 0 ≤ k → k < p.m → -1073741824 ≤ s.Y k ∧ s.Y k ≤ 1073741824 := fun k k0 k1 => by have := hpy.2 k k0 k1; omega
        refine ls_val hF (.free rfl) rfl rfl (ex_move rfl rfl) ?_; clear hF a; intro a hF
        refine ls_nil ?_
        refine then_normal ?_
        refine wp_block ?_
        refine cw_loop (fun mm a w => ∃ (i : Int), mm = ((p.m - i).toNat) ∧ (0 ≤ i) ∧ (i ≤ p.m) ∧ (∀ k, 0 ≤ k → k < i → p.b k * s.den ≤ dotp (p.A k) s.X p.n.toNat) ∧ Fr a 108 [(2, .pointer (some ⟨g1, 0, none⟩)), (3, .pointer (some ⟨g2, 0, none⟩)), (48, vA), (49, .int .i64 p.m), (50, .int .i64 i)] ∧ Sat w0 w [.blk g1 [vc, vA, vb], .blk g2 [vX, vY, .int .i64 s.val, .int .i64 s.den], .own v1 1 3 1 (ints (fun _ => s.val))]) ?_ ?_ (m := ((p.m - 0).toNat))
        ·
         refine ⟨0, rfl, (by omega), (by omega), ?_, (hF.pick (hF.pick (hF.pick (hF.pick (hF.pick hF.nil 50 rfl) 49 rfl) 48 rfl) 3 rfl) 2 rfl), hS⟩
         ·
          intro k k0 k1; omega
        ·
         clear hF hS a w
         rintro mm a w ⟨i, rfl, h0, h1, hrw, hF, hS⟩
         refine cw_seq ?_
         refine wp_region_lit ?_
         refine ls_val hF (.free rfl) rfl rfl (ex_lss rfl rfl rfl) ?_; clear hF a; intro a hF
         refine ls_nil ?_
         refine then_normal ?_
         refine cw_seq ?_
         refine cw_if hF rfl (fun hc => ?_) (fun hc => ?_)
         ·
          refine wp_skip ?_
          refine then_normal ?_
          refine cw_seq ?_
          refine wp_block ?_
          refine cw_seq ?_
          refine wp_region_lit ?_
          refine ls_val hF (.free rfl) rfl rfl (ex_move rfl rfl) ?_; clear hF a; intro a hF
          refine ls_val hF (.free rfl) rfl rfl (ex_index (k := i) rfl sl_23 rfl rfl hL.A.row.slh (by omega) (by omega) (by omega)) ?_; clear hF a; intro a hF
          refine ls_val hF (.free rfl) rfl rfl (ex_load_row (u := (vq i)) rfl pl_22 rfl (hL.A.row.below hS.below) (by omega) (by omega) rfl) ?_; clear hF a; intro a hF
          refine ls_val hF (.free rfl) rfl rfl (ex_assign rfl rfl) ?_; clear hF a; intro a hF
          refine ls_val hF (.free rfl) rfl rfl (ex_assign rfl rfl) ?_; clear hF a; intro a hF
          refine ls_nil ?_
          refine then_normal ?_
          refine cw_seq ?_
          refine dr_sat (m0 := [.blk g1 [vc, vA, vb], .blk g2 [vX, vY, .int .i64 s.val, .int .i64 s.den], .own v1 1 3 1 (ints (fun _ => s.val))]) (m1 := [.blk g1 [vc, vA, vb], .blk g2 [vX, vY, .int .i64 s.val, .int .i64 s.den], .own v1 1 3 1 (ints (fun _ => s.val))]) 1000 mx_ hS (.cons_cons _ (.cons_cons _ (.cons_cons _ .slnil))) (.cons_cons _ (.cons_cons _ (.cons_cons _ .slnil))) rfl ?_; clear hS; intro w hS hcl hB
          refine dr_val hF hcl hB 0 rfl (.free rfl) rfl rfl (by kernel_rfl) rfl (fun w => (ex_move rfl rfl)) ?_; clear hF a hcl hB; intro a hF hcl hB
          refine dr_val hF hcl hB 1 rfl (.free rfl) rfl rfl (by kernel_rfl) rfl (fun w => (ex_field (b := ⟨g2, 0, none⟩) rfl fd_30_0 rfl rfl)) ?_; clear hF a hcl hB; intro a hF hcl hB
          refine dr_loadA hF hcl hB 2 rfl (.free rfl) rfl rfl (by kernel_rfl) rfl (fun w hS => (ex_load_blk 1 rfl pl_22 rfl hS rfl rfl)) ?_; clear hF a hcl hB; intro a hF hcl hB
          refine dr_val hF hcl hB 4 rfl (.free rfl) rfl rfl (by kernel_rfl) rfl (fun w => (ex_field (b := ⟨g1, 2, none⟩) rfl fd_34_2 rfl rfl)) ?_; clear hF a hcl hB; intro a hF hcl hB
          refine dr_loadA hF hcl hB 5 rfl (.free rfl) rfl rfl (by kernel_rfl) rfl (fun w hS => (ex_load_blk 0 rfl pl_22 rfl hS rfl rfl)) ?_; clear hF a hcl hB; intro a hF hcl hB
          refine dr_val hF hcl hB 6 rfl (.free rfl) rfl rfl (by kernel_rfl) rfl (fun w => (ex_move rfl rfl)) ?_; clear hF a hcl hB; intro a hF hcl hB
          refine dr_val hF hcl hB 7 rfl (.free rfl) rfl rfl (by kernel_rfl) rfl (fun w => (ex_index (k := i) rfl sl_22 rfl rfl hL.b.slh (by omega) (by omega) (by omega))) ?_; clear hF a hcl hB; intro a hF hcl hB
          refine dr_loadA hF hcl hB 8 rfl (.free rfl) rfl rfl (by kernel_rfl) rfl (fun w hS => (ex_load_row (u := .int .i64 (p.b i)) rfl pl_3 rfl (hL.b.below hS.below) (by omega) (by omega) rfl)) ?_; clear hF a hcl hB; intro a hF hcl hB
          refine dr_val hF hcl hB 9 rfl (.free rfl) rfl rfl (by kernel_rfl) rfl (fun w => (ex_field (b := ⟨g2, 3, none⟩) rfl fd_30_3 rfl rfl)) ?_; clear hF a hcl hB; intro a hF hcl hB
          refine dr_loadA hF hcl hB 10 rfl (.free rfl) rfl rfl (by kernel_rfl) rfl (fun w hS => (ex_load_blk 1 rfl pl_3 rfl hS rfl rfl)) ?_; clear hF a hcl hB; intro a hF hcl hB
          have hri := (hl.rows i h0 (by omega)).1; have hmu := mul_abs (hl.b i h0 (by omega)) (show -1073741824 ≤ s.den ∧ s.den ≤ 1073741824 by omega)
          refine dr_val hF hcl hB 11 rfl (.free rfl) rfl rfl (by kernel_rfl) rfl (fun w => (ex_mul (r := ((p.b i) * s.den)) rfl rfl rfl rfl (by unfold I64; omega))) ?_; clear hF a hcl hB; intro a hF hcl hB
          refine dr_call hF hcl 3 rfl (.free rfl) rfl rfl (by kernel_rfl) (ex_call0 rfl rfl cl_45 (args_cons rfl (args_cons rfl args0))) (c_product (n := (p.ln i)) (f := (p.A i)) (m := s.n) (g := s.X) w ((hL.A.p i (by omega) (by omega)).below hS.below) (hX.below hS.below) (by omega) (by omega) (fun k k0 k1 => (hl.rows i h0 (by omega)).2 k k0 (by omega)) (fun k k0 k1 => by have := hpx.2 k k0 (by omega); omega)) ?_; clear hF hB; rintro _ w ⟨rfl, hS'⟩ a hF hcl
          replace hS : Sat w0 w [.blk g1 [vc, vA, vb], .blk g2 [vX, vY, .int .i64 s.val, .int .i64 s.den], .own v1 1 3 1 (ints (fun _ => s.val))] := hS.comp hS'; clear hS'
          refine ⟨⟨(fun _ => hS.sub (.cons_cons _ (.cons_cons _ (.cons_cons _ .slnil)))), hS.sub (.cons_cons _ (.cons_cons _ (.cons_cons _ .slnil)))⟩, fun hB => ?_⟩
          refine dr_val hF hcl hB 12 rfl (.free rfl) rfl rfl (by kernel_rfl) rfl (fun w => (ex_lss rfl rfl rfl)) ?_; clear hF a hcl hB; intro a hF hcl hB
          refine dr_done (by kernel_rfl) ?_; clear hcl hB
          refine then_normal ?_
          refine cw_if hF rfl (fun hc => ?_) (fun hc => ?_)
          ·
           refine cw_seq ?_
           refine wp_region_lit ?_
           refine ls_val hF (.free rfl) rfl rfl (ex_assign rfl rfl) ?_; clear hF a; intro a hF
           refine ls_nil ?_
           refine then_normal ?_
           refine wp_ret ?_
           refine inb_ret (then_ret (then_ret (inb_ret (then_ret ((fin1 hF rfl rfl ⟨_, rfl, ?_⟩))))))
           exact ⟨false_B (fun hk => by
            have e1 := hk.d1; have e2 := hk.d2; have e3 := hk.n; have e4 := hk.m; have e5 := hk.cX; have e6 := hk.bY
            first
            | omega
            | exact absurd hk.ok ‹¬ LOk p›
            | exact absurd (show Btw (fun x => s.val) 1 1073741824 from fun k k0 k1 => hk.v) ‹¬ Btw (fun x => s.val) 1 1073741824›
            | exact absurd ⟨hk.n, hk.X⟩ ‹¬ (s.n = p.n ∧ ∀ k, 0 ≤ k → k < p.n → 0 ≤ s.X k ∧ s.X k ≤ 1073741824)›
            | exact absurd ⟨hk.m, hk.Y⟩ ‹¬ (s.m = p.m ∧ ∀ k, 0 ≤ k → k < p.m → 0 ≤ s.Y k ∧ s.Y k ≤ 1073741824)›
            | (have e7 := hk.rows i h0 (by omega); have e8 := (hl.rows i h0 (by omega)).1; rw [← e8] at e7; omega)
            | (have e7 := hk.cols j j0 (by omega); omega)
            | (rw [b4] at *; omega)), hS.sub (.cons _ (.cons _ (.cons _ .slnil)))⟩
          ·
           refine wp_skip ?_
           refine inb_normal ?_
           refine then_normal ?_
           refine wp_region_lit ?_
           refine ls_val hF (.free rfl) rfl rfl (ex_add (r := i + 1) rfl rfl rfl (by omega) (by unfold I64; omega)) ?_; clear hF a; intro a hF
           refine ls_val hF (.free rfl) rfl rfl (ex_move rfl rfl) ?_; clear hF a; intro a hF
           refine ls_nil ?_
           refine then_normal ?_
           refine ⟨_, (by omega), i + 1, rfl, (by omega), (by omega), ?_, (hF.pick (hF.pick (hF.pick (hF.pick (hF.pick hF.nil 50 rfl) 49 rfl) 48 rfl) 3 rfl) 2 rfl), hS⟩
           ·
            intro k k0 k1; rcases Int.lt_or_eq_of_le (show k ≤ i by omega) with hk | hk; exact hrw k k0 hk; rw [hk]; have := (hl.rows i h0 (by omega)).1; rw [← this]; omega
         ·
          refine wp_exit ?_
          refine then_exit ?_
          refine then_exit ?_
          refine inb_hit ?_
          refine then_normal ?_
          refine cw_seq ?_
          refine cw_seq ?_
          refine wp_region_lit ?_
          refine ls_val hF (.free rfl) rfl rfl (ex_loads_blk 0 rfl st_34 rfl hS rfl rfl) ?_; clear hF a; intro a hF
          refine ls_val hF (.free rfl) rfl rfl (ex_field (b := ⟨g2, 1, none⟩) rfl fd_30_1 rfl rfl) ?_; clear hF a; intro a hF
          refine ls_val hF (.free rfl) rfl rfl (ex_load_blk 1 rfl pl_22 rfl hS rfl rfl) ?_; clear hF a; intro a hF
          refine ls_call hF (.free rfl) rfl rfl (ex_call0 rfl rfl cl_46 (args_cons rfl (args_cons rfl args0))) (c_weighed (p := p) (y := s.Y) w (hL.below hS.below) hl (by have hh := (hY.below hS.below); rw [hpy1] at hh; exact hh) hyb) ?_; clear hF; rintro vq1 w ⟨_, rfl, hslq1, hS'⟩ a hF
          replace hS : Sat w0 w [.blk g1 [vc, vA, vb], .blk g2 [vX, vY, .int .i64 s.val, .int .i64 s.den], .own v1 1 3 1 (ints (fun _ => s.val)), .own vq1 1 3 p.n (ints (wgt p.A s.Y p.m.toNat))] := hS.comp hS'; clear hS'
          refine ls_val hF (.free rfl) rfl rfl (ex_len rfl sl_22 rfl hslq1) ?_; clear hF a; intro a hF
          refine ls_val hF (.free rfl) rfl rfl (ex_move rfl rfl) ?_; clear hF a; intro a hF
          refine ls_nil ?_
          refine then_normal ?_
          refine wp_block ?_
          refine cw_loop (fun mm a w => ∃ (j : Int), mm = ((p.n - j).toNat) ∧ (0 ≤ j) ∧ (j ≤ p.n) ∧ (∀ k, 0 ≤ k → k < j → wgt p.A s.Y p.m.toNat k ≤ p.c k * s.den) ∧ Fr a 108 [(2, .pointer (some ⟨g1, 0, none⟩)), (3, .pointer (some ⟨g2, 0, none⟩)), (72, vq1), (73, .int .i64 p.n), (74, .int .i64 j)] ∧ Sat w0 w [.blk g1 [vc, vA, vb], .blk g2 [vX, vY, .int .i64 s.val, .int .i64 s.den], .own v1 1 3 1 (ints (fun _ => s.val)), .own vq1 1 3 p.n (ints (wgt p.A s.Y p.m.toNat))]) ?_ ?_ (m := ((p.n - 0).toNat))
          ·
           refine ⟨0, rfl, (by omega), (by omega), ?_, (hF.pick (hF.pick (hF.pick (hF.pick (hF.pick hF.nil 74 rfl) 73 rfl) 72 rfl) 3 rfl) 2 rfl), hS⟩
           ·
            intro k k0 k1; omega
          ·
           clear hF hS a w
           rintro mm a w ⟨j, rfl, j0, j1, hcw, hF, hS⟩
           refine cw_seq ?_
           refine wp_region_lit ?_
           refine ls_val hF (.free rfl) rfl rfl (ex_lss rfl rfl rfl) ?_; clear hF a; intro a hF
           refine ls_nil ?_
           refine then_normal ?_
           refine cw_seq ?_
           refine cw_if hF rfl (fun hc => ?_) (fun hc => ?_)
           ·
            refine wp_skip ?_
            refine then_normal ?_
            refine cw_seq ?_
            refine wp_block ?_
            refine cw_seq ?_
            refine wp_region_lit ?_
            refine ls_val hF (.free rfl) rfl rfl (ex_move rfl rfl) ?_; clear hF a; intro a hF
            refine ls_val hF (.free rfl) rfl rfl (ex_index (k := j) rfl sl_22 rfl rfl hslq1 (by omega) (by omega) (by omega)) ?_; clear hF a; intro a hF
            refine ls_val hF (.free rfl) rfl rfl (ex_load_row (u := .int .i64 (wgt p.A s.Y p.m.toNat j)) rfl pl_3 rfl (hS.rowN 3 rfl) (by omega) (by omega) rfl) ?_; clear hF a; intro a hF
            refine ls_val hF (.free rfl) rfl rfl (ex_assign rfl rfl) ?_; clear hF a; intro a hF
            refine ls_val hF (.free rfl) rfl rfl (ex_assign rfl rfl) ?_; clear hF a; intro a hF
            refine ls_nil ?_
            refine then_normal ?_
            refine cw_seq ?_
            refine dr_sat (m0 := [.blk g1 [vc, vA, vb], .blk g2 [vX, vY, .int .i64 s.val, .int .i64 s.den], .own v1 1 3 1 (ints (fun _ => s.val)), .own vq1 1 3 p.n (ints (wgt p.A s.Y p.m.toNat))]) (m1 := [.blk g1 [vc, vA, vb], .blk g2 [vX, vY, .int .i64 s.val, .int .i64 s.den], .own v1 1 3 1 (ints (fun _ => s.val)), .own vq1 1 3 p.n (ints (wgt p.A s.Y p.m.toNat))]) 1000 mx_ hS (.cons_cons _ (.cons_cons _ (.cons_cons _ (.cons_cons _ .slnil)))) (.cons_cons _ (.cons_cons _ (.cons_cons _ (.cons_cons _ .slnil)))) rfl ?_; clear hS; intro w hS hcl hB
            refine dr_val hF hcl hB 0 rfl (.free rfl) rfl rfl (by kernel_rfl) rfl (fun w => (ex_move rfl rfl)) ?_; clear hF a hcl hB; intro a hF hcl hB
            refine dr_val hF hcl hB 1 rfl (.free rfl) rfl rfl (by kernel_rfl) rfl (fun w => (ex_field (b := ⟨g1, 0, none⟩) rfl fd_34_0 rfl rfl)) ?_; clear hF a hcl hB; intro a hF hcl hB
            refine dr_loadA hF hcl hB 2 rfl (.free rfl) rfl rfl (by kernel_rfl) rfl (fun w hS => (ex_load_blk 0 rfl pl_22 rfl hS rfl rfl)) ?_; clear hF a hcl hB; intro a hF hcl hB
            refine dr_val hF hcl hB 3 rfl (.free rfl) rfl rfl (by kernel_rfl) rfl (fun w => (ex_move rfl rfl)) ?_; clear hF a hcl hB; intro a hF hcl hB
            refine dr_val hF hcl hB 4 rfl (.free rfl) rfl rfl (by kernel_rfl) rfl (fun w => (ex_index (k := j) rfl sl_22 rfl rfl hL.c.slh (by omega) (by omega) (by omega))) ?_; clear hF a hcl hB; intro a hF hcl hB
            refine dr_loadA hF hcl hB 5 rfl (.free rfl) rfl rfl (by kernel_rfl) rfl (fun w hS => (ex_load_row (u := .int .i64 (p.c j)) rfl pl_3 rfl (hL.c.below hS.below) (by omega) (by omega) rfl)) ?_; clear hF a hcl hB; intro a hF hcl hB
            refine dr_val hF hcl hB 6 rfl (.free rfl) rfl rfl (by kernel_rfl) rfl (fun w => (ex_field (b := ⟨g2, 3, none⟩) rfl fd_30_3 rfl rfl)) ?_; clear hF a hcl hB; intro a hF hcl hB
            refine dr_loadA hF hcl hB 7 rfl (.free rfl) rfl rfl (by kernel_rfl) rfl (fun w hS => (ex_load_blk 1 rfl pl_3 rfl hS rfl rfl)) ?_; clear hF a hcl hB; intro a hF hcl hB
            have hmu := mul_abs (show -1000000 ≤ p.c j ∧ p.c j ≤ 1000000 by have := hl.c j j0 (by omega); omega) (show -1073741824 ≤ s.den ∧ s.den ≤ 1073741824 by omega)
            refine dr_val hF hcl hB 8 rfl (.free rfl) rfl rfl (by kernel_rfl) rfl (fun w => (ex_mul (r := ((p.c j) * s.den)) rfl rfl rfl rfl (by unfold I64; omega))) ?_; clear hF a hcl hB; intro a hF hcl hB
            refine dr_val hF hcl hB 9 rfl (.free rfl) rfl rfl (by kernel_rfl) rfl (fun w => (ex_gtr rfl rfl rfl)) ?_; clear hF a hcl hB; intro a hF hcl hB
            refine dr_done (by kernel_rfl) ?_; clear hcl hB
            refine then_normal ?_
            refine cw_if hF rfl (fun hc => ?_) (fun hc => ?_)
            ·
             refine cw_seq ?_
             refine wp_region_lit ?_
             refine ls_val hF (.free rfl) rfl rfl (ex_assign rfl rfl) ?_; clear hF a; intro a hF
             refine ls_nil ?_
             refine then_normal ?_
             refine wp_ret ?_
             refine inb_ret (then_ret (then_ret (inb_ret (then_ret ((fin1 hF rfl rfl ⟨_, rfl, ?_⟩))))))
             exact ⟨false_B (fun hk => by
              have e1 := hk.d1; have e2 := hk.d2; have e3 := hk.n; have e4 := hk.m; have e5 := hk.cX; have e6 := hk.bY
              first
              | omega
              | exact absurd hk.ok ‹¬ LOk p›
              | exact absurd (show Btw (fun x => s.val) 1 1073741824 from fun k k0 k1 => hk.v) ‹¬ Btw (fun x => s.val) 1 1073741824›
              | exact absurd ⟨hk.n, hk.X⟩ ‹¬ (s.n = p.n ∧ ∀ k, 0 ≤ k → k < p.n → 0 ≤ s.X k ∧ s.X k ≤ 1073741824)›
              | exact absurd ⟨hk.m, hk.Y⟩ ‹¬ (s.m = p.m ∧ ∀ k, 0 ≤ k → k < p.m → 0 ≤ s.Y k ∧ s.Y k ≤ 1073741824)›
              | (have e7 := hk.rows i h0 (by omega); have e8 := (hl.rows i h0 (by omega)).1; rw [← e8] at e7; omega)
              | (have e7 := hk.cols j j0 (by omega); omega)
              | (rw [b4] at *; omega)), hS.sub (.cons _ (.cons _ (.cons _ (.cons _ .slnil))))⟩
            ·
             refine wp_skip ?_
             refine inb_normal ?_
             refine then_normal ?_
             refine wp_region_lit ?_
             refine ls_val hF (.free rfl) rfl rfl (ex_add (r := j + 1) rfl rfl rfl (by omega) (by unfold I64; omega)) ?_; clear hF a; intro a hF
             refine ls_val hF (.free rfl) rfl rfl (ex_move rfl rfl) ?_; clear hF a; intro a hF
             refine ls_nil ?_
             refine then_normal ?_
             refine ⟨_, (by omega), j + 1, rfl, (by omega), (by omega), ?_, (hF.pick (hF.pick (hF.pick (hF.pick (hF.pick hF.nil 74 rfl) 73 rfl) 72 rfl) 3 rfl) 2 rfl), hS⟩
             ·
              intro k k0 k1; rcases Int.lt_or_eq_of_le (show k ≤ j by omega) with hk | hk; exact hcw k k0 hk; rw [hk]; omega
           ·
            refine wp_exit ?_
            refine then_exit ?_
            refine then_exit ?_
            refine inb_hit ?_
            refine then_normal ?_
            refine cw_seq ?_
            refine dr_sat (m0 := [.blk g1 [vc, vA, vb], .blk g2 [vX, vY, .int .i64 s.val, .int .i64 s.den], .own v1 1 3 1 (ints (fun _ => s.val)), .own vq1 1 3 p.n (ints (wgt p.A s.Y p.m.toNat))]) (m1 := [.blk g1 [vc, vA, vb], .blk g2 [vX, vY, .int .i64 s.val, .int .i64 s.den], .own v1 1 3 1 (ints (fun _ => s.val)), .own vq1 1 3 p.n (ints (wgt p.A s.Y p.m.toNat))]) 1000 mx_ hS (.cons_cons _ (.cons_cons _ (.cons_cons _ (.cons_cons _ .slnil)))) (.cons_cons _ (.cons_cons _ (.cons_cons _ (.cons_cons _ .slnil)))) rfl ?_; clear hS; intro w hS hcl hB
            refine dr_val hF hcl hB 0 rfl (.free rfl) rfl rfl (by kernel_rfl) rfl (fun w => (ex_field (b := ⟨g1, 0, none⟩) rfl fd_34_0 rfl rfl)) ?_; clear hF a hcl hB; intro a hF hcl hB
            refine dr_loadA hF hcl hB 1 rfl (.free rfl) rfl rfl (by kernel_rfl) rfl (fun w hS => (ex_load_blk 0 rfl pl_22 rfl hS rfl rfl)) ?_; clear hF a hcl hB; intro a hF hcl hB
            refine dr_val hF hcl hB 2 rfl (.free rfl) rfl rfl (by kernel_rfl) rfl (fun w => (ex_field (b := ⟨g2, 0, none⟩) rfl fd_30_0 rfl rfl)) ?_; clear hF a hcl hB; intro a hF hcl hB
            refine dr_loadA hF hcl hB 3 rfl (.free rfl) rfl rfl (by kernel_rfl) rfl (fun w hS => (ex_load_blk 1 rfl pl_22 rfl hS rfl rfl)) ?_; clear hF a hcl hB; intro a hF hcl hB
            refine dr_val hF hcl hB 5 rfl (.free rfl) rfl rfl (by kernel_rfl) rfl (fun w => (ex_field (b := ⟨g2, 2, none⟩) rfl fd_30_2 rfl rfl)) ?_; clear hF a hcl hB; intro a hF hcl hB
            refine dr_loadA hF hcl hB 6 rfl (.free rfl) rfl rfl (by kernel_rfl) rfl (fun w hS => (ex_load_blk 1 rfl pl_3 rfl hS rfl rfl)) ?_; clear hF a hcl hB; intro a hF hcl hB
            refine dr_call hF hcl 4 rfl (.free rfl) rfl rfl (by kernel_rfl) (ex_call0 rfl rfl cl_45 (args_cons rfl (args_cons rfl args0))) (c_product (n := p.n) (f := p.c) (m := s.n) (g := s.X) w (hL.c.below hS.below) (hX.below hS.below) (by omega) (by omega) (fun k k0 k1 => by have := hl.c k k0 k1; omega) (fun k k0 k1 => by have := hpx.2 k k0 (by omega); omega)) ?_; clear hF hB; rintro _ w ⟨rfl, hS'⟩ a hF hcl
            replace hS : Sat w0 w [.blk g1 [vc, vA, vb], .blk g2 [vX, vY, .int .i64 s.val, .int .i64 s.den], .own v1 1 3 1 (ints (fun _ => s.val)), .own vq1 1 3 p.n (ints (wgt p.A s.Y p.m.toNat))] := hS.comp hS'; clear hS'
            refine ⟨⟨(fun _ => hS.sub (.cons_cons _ (.cons_cons _ (.cons_cons _ (.cons_cons _ .slnil))))), hS.sub (.cons_cons _ (.cons_cons _ (.cons_cons _ (.cons_cons _ .slnil))))⟩, fun hB => ?_⟩
            refine dr_val hF hcl hB 7 rfl (.free rfl) rfl rfl (by kernel_rfl) rfl (fun w => (ex_eql rfl rfl rfl)) ?_; clear hF a hcl hB; intro a hF hcl hB
            refine dr_val hF hcl hB 8 rfl (.free rfl) rfl rfl (by kernel_rfl) rfl (fun w => (ex_move rfl rfl)) ?_; clear hF a hcl hB; intro a hF hcl hB
            refine by_slot hF (d := 98) rfl ?_ ?_ <;> clear hF <;> intro hc hF
            ·
             refine dr_val hF hcl hB 9 rfl (.on rfl rfl rfl rfl rfl) rfl rfl (by kernel_rfl) rfl (fun w => (ex_field (b := ⟨g1, 2, none⟩) rfl fd_34_2 rfl rfl)) ?_; clear hF a hcl hB; intro a hF hcl hB
             refine dr_loadA hF hcl hB 10 rfl (.on rfl rfl rfl rfl rfl) rfl rfl (by kernel_rfl) rfl (fun w hS => (ex_load_blk 0 rfl pl_22 rfl hS rfl rfl)) ?_; clear hF a hcl hB; intro a hF hcl hB
             refine dr_val hF hcl hB 11 rfl (.on rfl rfl rfl rfl rfl) rfl rfl (by kernel_rfl) rfl (fun w => (ex_field (b := ⟨g2, 1, none⟩) rfl fd_30_1 rfl rfl)) ?_; clear hF a hcl hB; intro a hF hcl hB
             refine dr_loadA hF hcl hB 12 rfl (.on rfl rfl rfl rfl rfl) rfl rfl (by kernel_rfl) rfl (fun w hS => (ex_load_blk 1 rfl pl_22 rfl hS rfl rfl)) ?_; clear hF a hcl hB; intro a hF hcl hB
             refine dr_val hF hcl hB 14 rfl (.on rfl rfl rfl rfl rfl) rfl rfl (by kernel_rfl) rfl (fun w => (ex_field (b := ⟨g2, 2, none⟩) rfl fd_30_2 rfl rfl)) ?_; clear hF a hcl hB; intro a hF hcl hB
             refine dr_loadA hF hcl hB 15 rfl (.on rfl rfl rfl rfl rfl) rfl rfl (by kernel_rfl) rfl (fun w hS => (ex_load_blk 1 rfl pl_3 rfl hS rfl rfl)) ?_; clear hF a hcl hB; intro a hF hcl hB
             refine dr_call hF hcl 13 rfl (.on rfl rfl rfl rfl rfl) rfl rfl (by kernel_rfl) (ex_call0 rfl rfl cl_45 (args_cons rfl (args_cons rfl args0))) (c_product (n := p.k) (f := p.b) (m := s.m) (g := s.Y) w (hL.b.below hS.below) (hY.below hS.below) (by omega) (by omega) (fun k k0 k1 => hl.b k k0 (by omega)) (fun k k0 k1 => by have := hpy.2 k k0 (by omega); omega)) ?_; clear hF hB; rintro _ w ⟨rfl, hS'⟩ a hF hcl
             replace hS : Sat w0 w [.blk g1 [vc, vA, vb], .blk g2 [vX, vY, .int .i64 s.val, .int .i64 s.den], .own v1 1 3 1 (ints (fun _ => s.val)), .own vq1 1 3 p.n (ints (wgt p.A s.Y p.m.toNat))] := hS.comp hS'; clear hS'
             refine ⟨⟨(fun _ => hS.sub (.cons_cons _ (.cons_cons _ (.cons_cons _ (.cons_cons _ .slnil))))), hS.sub (.cons_cons _ (.cons_cons _ (.cons_cons _ (.cons_cons _ .slnil))))⟩, fun hB => ?_⟩
             refine dr_val hF hcl hB 16 rfl (.on rfl rfl rfl rfl rfl) rfl rfl (by kernel_rfl) rfl (fun w => (ex_eql rfl rfl rfl)) ?_; clear hF a hcl hB; intro a hF hcl hB
             refine dr_val hF hcl hB 17 rfl (.free rfl) rfl rfl (by kernel_rfl) rfl (fun w => (ex_pick_t rfl rfl rfl)) ?_; clear hF a hcl hB; intro a hF hcl hB
             refine dr_val hF hcl hB 18 rfl (.free rfl) rfl rfl (by kernel_rfl) rfl (fun w => (ex_assign rfl rfl)) ?_; clear hF a hcl hB; intro a hF hcl hB
             refine dr_done (by kernel_rfl) ?_; clear hcl hB
             refine then_normal ?_
             refine wp_ret ?_
             refine (fin1 hF rfl rfl ⟨_, rfl, ?_⟩)
             exact ⟨B_congr ⟨fun hx => ⟨hl, by omega, by omega, hvv, hpx.1, hpy.1, hpx.2, hpy.2, fun k k0 k1 => hrw k k0 (by omega), fun k k0 k1 => hcw k k0 (by omega), by omega, by first | omega | (rw [← b4]; omega)⟩, fun hk => by have e5 := hk.cX; have e6 := hk.bY; first | omega | (rw [b4]; omega)⟩, hS.sub (.cons _ (.cons _ (.cons _ (.cons _ .slnil))))⟩
            ·
             refine dr_off hF hcl hB 9 rfl (.on rfl rfl rfl rfl rfl) rfl rfl (by kernel_rfl) rfl ?_; clear hF a hcl hB; intro a hF hcl hB
             refine dr_off hF hcl hB 10 rfl (.on rfl rfl rfl rfl rfl) rfl rfl (by kernel_rfl) rfl ?_; clear hF a hcl hB; intro a hF hcl hB
             refine dr_off hF hcl hB 11 rfl (.on rfl rfl rfl rfl rfl) rfl rfl (by kernel_rfl) rfl ?_; clear hF a hcl hB; intro a hF hcl hB
             refine dr_off hF hcl hB 12 rfl (.on rfl rfl rfl rfl rfl) rfl rfl (by kernel_rfl) rfl ?_; clear hF a hcl hB; intro a hF hcl hB
             refine dr_off hF hcl hB 14 rfl (.on rfl rfl rfl rfl rfl) rfl rfl (by kernel_rfl) rfl ?_; clear hF a hcl hB; intro a hF hcl hB
             refine dr_off hF hcl hB 15 rfl (.on rfl rfl rfl rfl rfl) rfl rfl (by kernel_rfl) rfl ?_; clear hF a hcl hB; intro a hF hcl hB
             refine dr_off hF hcl hB 13 rfl (.on rfl rfl rfl rfl rfl) rfl rfl (by kernel_rfl) rfl ?_; clear hF a hcl hB; intro a hF hcl hB
             refine dr_off hF hcl hB 16 rfl (.on rfl rfl rfl rfl rfl) rfl rfl (by kernel_rfl) rfl ?_; clear hF a hcl hB; intro a hF hcl hB
             refine dr_val hF hcl hB 17 rfl (.free rfl) rfl rfl (by kernel_rfl) rfl (fun w => (ex_pick_f rfl rfl rfl)) ?_; clear hF a hcl hB; intro a hF hcl hB
             refine dr_val hF hcl hB 18 rfl (.free rfl) rfl rfl (by kernel_rfl) rfl (fun w => (ex_assign rfl rfl)) ?_; clear hF a hcl hB; intro a hF hcl hB
             refine dr_done (by kernel_rfl) ?_; clear hcl hB
             refine then_normal ?_
             refine wp_ret ?_
             refine (fin1 hF rfl rfl ⟨_, rfl, ?_⟩)
             exact ⟨false_B (fun hk => by
              have e1 := hk.d1; have e2 := hk.d2; have e3 := hk.n; have e4 := hk.m; have e5 := hk.cX; have e6 := hk.bY
              first
              | omega
              | exact absurd hk.ok ‹¬ LOk p›
              | exact absurd (show Btw (fun x => s.val) 1 1073741824 from fun k k0 k1 => hk.v) ‹¬ Btw (fun x => s.val) 1 1073741824›
              | exact absurd ⟨hk.n, hk.X⟩ ‹¬ (s.n = p.n ∧ ∀ k, 0 ≤ k → k < p.n → 0 ≤ s.X k ∧ s.X k ≤ 1073741824)›
              | exact absurd ⟨hk.m, hk.Y⟩ ‹¬ (s.m = p.m ∧ ∀ k, 0 ≤ k → k < p.m → 0 ≤ s.Y k ∧ s.Y k ≤ 1073741824)›
              | (have e7 := hk.rows i h0 (by omega); have e8 := (hl.rows i h0 (by omega)).1; rw [← e8] at e7; omega)
              | (have e7 := hk.cols j j0 (by omega); omega)
              | (rw [b4] at *; omega)), hS.sub (.cons _ (.cons _ (.cons _ (.cons _ .slnil))))⟩

end Go.Proofs.Ytakgjpmhbfieeaa
