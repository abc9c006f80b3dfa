/- The walks of Proves, of tableau and of the reference. -/
import Derived.Test.YtakgjpmhbfieeaaW16
namespace Go.Proofs.Ytakgjpmhbfieeaa
open Go Go.RowKit Go.Proofs.Gw
set_option linter.unusedVariables false

theorem cl_56 : calledT Try.prog 56 = true := by kernel_rfl
set_option maxRecDepth 20000 in
theorem c_proves {vc vA vb : Value} {vq : Int → Value} {p : Lp} {vy : Value} {y : Int → Int} {my : Int} (w0 : World) (hL : LAt w0 vc vA vb vq p) (hy : Row w0 vy 1 my (ints y)) :
    Calls Try.prog 30 [.agg #[vc, vA, vb], vy].toArray w0 fun e w => ∃ v, e = .returned v ∧ v = B (LOk p ∧ my = p.m ∧ RefS p y) ∧ Sat w0 w [] := by
  have hn := hL.c.slh.n0; have hn1 := hL.c.slh.n1; have hm := hL.A.row.slh.n0; have hm1 := hL.A.row.slh.n1; have hk := hL.b.slh.n0; have hk1 := hL.b.slh.n1
  refine enterS (vs := [.agg #[vc, vA, vb], vy]) Try.func30 rfl Try.ntmps30 rfl ?_
  intro a w hS hF
  refine cw_seq ?_
  refine wp_region_lit ?_
  refine ls_any hF (.free rfl) rfl rfl (ex_box (cs := [vc, vA, vb]) rfl hS rfl rfl) ?_; clear hF; rintro _ w ⟨g1, rfl, hS⟩ a hF
  replace hS : Sat w0 w [.blk g1 [vc, vA, vb]] := hS
  refine ls_val hF (.free rfl) rfl rfl (ex_assign rfl rfl) ?_; clear hF a; intro a hF
  refine ls_nil ?_
  refine then_normal ?_
  refine cw_seq ?_
  refine wp_region_lit ?_
  refine ls_val hF (.free rfl) rfl rfl (ex_loads_blk 0 rfl st_34 rfl hS rfl rfl) ?_; clear hF a; intro a hF
  refine ls_call hF (.free rfl) rfl rfl (ex_call0 rfl rfl cl_36 (args_cons rfl args0)) (c_valid (p := p) w (hL.below hS.below)) ?_; clear hF; rintro _ w ⟨rfl, hS'⟩ a hF
  replace hS : Sat w0 w [.blk g1 [vc, vA, vb]] := hS.comp hS'; clear hS'
  refine ls_val hF (.free rfl) rfl rfl (ex_move rfl rfl) ?_; clear hF a; intro a hF
  refine by_slot hF (d := 7) rfl ?_ ?_ <;> clear hF <;> intro hc hF
  ·
   refine ls_val hF (.on rfl rfl rfl rfl rfl) rfl rfl (ex_move rfl rfl) ?_; clear hF a; intro a hF
   refine ls_val hF (.on rfl rfl rfl rfl rfl) rfl rfl (ex_field (b := ⟨g1, 1, none⟩) rfl fd_34_1 rfl rfl) ?_; clear hF a; intro a hF
   refine ls_val hF (.on rfl rfl rfl rfl rfl) rfl rfl (ex_load_blk 0 rfl pl_23 rfl hS rfl rfl) ?_; clear hF a; intro a hF
   refine ls_val hF (.on rfl rfl rfl rfl rfl) rfl rfl (ex_len rfl sl_23 rfl hL.A.row.slh) ?_; clear hF a; intro a hF
   refine ls_call hF (.on rfl rfl rfl rfl rfl) rfl rfl (ex_call0 rfl rfl cl_44 (args_cons rfl (args_cons rfl args0))) (c_positive (m := my) (n := p.m) (f := y) w (hy.below hS.below)) ?_; clear hF; rintro _ w ⟨rfl, hS'⟩ a hF
   replace hS : Sat w0 w [.blk g1 [vc, vA, vb]] := hS.comp hS'; clear hS'
   refine ls_val hF (.free rfl) rfl rfl (ex_pick_t rfl rfl rfl) ?_; clear hF a; intro a hF
   refine ls_val hF (.free rfl) rfl rfl (ex_move rfl rfl) ?_; clear hF a; intro a hF
   refine by_slot hF (d := 14) rfl ?_ ?_ <;> clear hF <;> intro hc hF
   ·
    refine ls_val hF (.on rfl rfl rfl rfl rfl) rfl rfl (ex_loads_blk 0 rfl st_34 rfl hS rfl rfl) ?_; clear hF a; intro a hF
    refine ls_val hF (.on rfl rfl rfl rfl rfl) rfl rfl (ex_move rfl rfl) ?_; clear hF a; intro a hF
    have hl : LOk p := by first | assumption | exact Classical.not_not.1 ‹¬ ¬ (LOk p)›
    have b1 := hl.n1
    have b2 := hl.n2
    have b3 := hl.m2
    have b4 := hl.k
    have hpy : my = p.m ∧ ∀ k, 0 ≤ k → k < p.m → 0 ≤ y k ∧ y k ≤ 1073741824 := by first | assumption | exact Classical.not_not.1 ‹¬ ¬ (my = p.m ∧ ∀ k, 0 ≤ k → k < p.m → 0 ≤ y k ∧ y k ≤ 1073741824)›
    have hpy1 := hpy.1
    have hyb : ∀ k, 0 ≤ k → k < p.m → -1073741824 ≤ y k ∧ y k ≤ 1073741824 := fun k k0 k1 => by have := hpy.2 k k0 k1; omega
    refine ls_call hF (.on rfl rfl rfl rfl rfl) rfl rfl (ex_call0 rfl rfl cl_46 (args_cons rfl (args_cons rfl args0))) (c_weighed (p := p) (y := y) w (hL.below hS.below) hl (by have hh := (hy.below hS.below); rw [hpy1] at hh; exact hh) hyb) ?_; clear hF; rintro vq1 w ⟨_, rfl, hslq1, hS'⟩ a hF
    replace hS : Sat w0 w [.blk g1 [vc, vA, vb], .own vq1 1 3 p.n (ints (wgt p.A y p.m.toNat))] := hS.comp hS'; clear hS'
    refine ls_call hF (.on rfl rfl rfl rfl rfl) rfl rfl (ex_call0 rfl rfl cl_56 (args_cons rfl args0)) (c_max (n := p.n) (f := (wgt p.A y p.m.toNat)) w (hS.rowN 1 rfl) (by omega)) ?_; clear hF; rintro _ w ⟨x1, rfl, hex1, hax1, hS'⟩ a hF
    replace hS : Sat w0 w [.blk g1 [vc, vA, vb], .own vq1 1 3 p.n (ints (wgt p.A y p.m.toNat))] := hS.comp hS'; clear hS'
    refine ls_val hF (.on rfl rfl rfl rfl rfl) rfl rfl (ex_leq rfl rfl rfl) ?_; clear hF a; intro a hF
    refine ls_val hF (.free rfl) rfl rfl (ex_pick_t rfl rfl rfl) ?_; clear hF a; intro a hF
    refine ls_val hF (.free rfl) rfl rfl (ex_move rfl rfl) ?_; clear hF a; intro a hF
    refine by_slot hF (d := 21) rfl ?_ ?_ <;> clear hF <;> intro hc hF
    ·
     refine ls_val hF (.on rfl rfl rfl rfl rfl) rfl rfl (ex_field (b := ⟨g1, 2, none⟩) rfl fd_34_2 rfl rfl) ?_; clear hF a; intro a hF
     refine ls_val hF (.on rfl rfl rfl rfl rfl) rfl rfl (ex_load_blk 0 rfl pl_22 rfl hS rfl rfl) ?_; clear hF a; intro a hF
     refine ls_val hF (.on rfl rfl rfl rfl rfl) rfl rfl (ex_move rfl rfl) ?_; clear hF a; intro a hF
     refine ls_call hF (.on rfl rfl rfl rfl rfl) rfl rfl (ex_call0 rfl rfl cl_45 (args_cons rfl (args_cons rfl args0))) (c_product (n := p.k) (f := p.b) (m := my) (g := y) w (hL.b.below hS.below) (hy.below hS.below) (by omega) (by omega) (fun k k0 k1 => hl.b k k0 (by omega)) (fun k k0 k1 => by have := hpy.2 k k0 (by omega); omega)) ?_; clear hF; rintro _ w ⟨rfl, hS'⟩ a hF
     replace hS : Sat w0 w [.blk g1 [vc, vA, vb], .own vq1 1 3 p.n (ints (wgt p.A y p.m.toNat))] := hS.comp hS'; clear hS'
     refine ls_val hF (.on rfl rfl rfl rfl rfl) rfl rfl (ex_gtr rfl rfl rfl) ?_; clear hF a; intro a hF
     refine ls_val hF (.free rfl) rfl rfl (ex_pick_t rfl rfl rfl) ?_; clear hF a; intro a hF
     refine ls_val hF (.free rfl) rfl rfl (ex_assign rfl rfl) ?_; clear hF a; intro a hF
     refine ls_nil ?_
     refine then_normal ?_
     refine wp_ret ?_
     refine (fin1 hF rfl rfl ⟨_, rfl, ?_⟩)
     exact ⟨B_congr ⟨fun hx => ⟨hl, hpy.1, hpy.2, fun j j0 j1 => by have := hax1 j j0 j1; omega, by rw [← b4]; omega⟩, fun h => by have h4 := h.2.2.pos; rw [← b4] at h4; omega⟩, hS.sub (.cons _ (.cons _ .slnil))⟩
    ·
     refine ls_off hF (.on rfl rfl rfl rfl rfl) rfl rfl ?_; clear hF a; intro a hF
     refine ls_off hF (.on rfl rfl rfl rfl rfl) rfl rfl ?_; clear hF a; intro a hF
     refine ls_off hF (.on rfl rfl rfl rfl rfl) rfl rfl ?_; clear hF a; intro a hF
     refine ls_off hF (.on rfl rfl rfl rfl rfl) rfl rfl ?_; clear hF a; intro a hF
     refine ls_off hF (.on rfl rfl rfl rfl rfl) rfl rfl ?_; clear hF a; intro a hF
     refine ls_val hF (.free rfl) rfl rfl (ex_pick_f rfl rfl rfl) ?_; clear hF a; intro a hF
     refine ls_val hF (.free rfl) rfl rfl (ex_assign rfl rfl) ?_; clear hF a; intro a hF
     refine ls_nil ?_
     refine then_normal ?_
     refine wp_ret ?_
     refine (fin1 hF rfl rfl ⟨_, rfl, ?_⟩)
     exact ⟨false_B (by rintro ⟨h1, h2, h3⟩; have h4 := h3.pos; first | exact absurd h1 ‹¬ LOk p› | exact absurd ⟨h2, h3.rng⟩ ‹¬ (my = p.m ∧ ∀ k, 0 ≤ k → k < p.m → 0 ≤ y k ∧ y k ≤ 1073741824)› | omega | (obtain ⟨q, q0, q1, q2⟩ := hex1; have := h3.cols q q0 q1; omega)), hS.sub (.cons _ (.cons _ .slnil))⟩
   ·
    refine ls_off hF (.on rfl rfl rfl rfl rfl) rfl rfl ?_; clear hF a; intro a hF
    refine ls_off hF (.on rfl rfl rfl rfl rfl) rfl rfl ?_; clear hF a; intro a hF
    refine ls_off hF (.on rfl rfl rfl rfl rfl) rfl rfl ?_; clear hF a; intro a hF
    refine ls_off hF (.on rfl rfl rfl rfl rfl) rfl rfl ?_; clear hF a; intro a hF
    refine ls_off hF (.on rfl rfl rfl rfl rfl) rfl rfl ?_; clear hF a; intro a hF
    refine ls_val hF (.free rfl) rfl rfl (ex_pick_f rfl rfl rfl) ?_; clear hF a; intro a hF
    refine ls_val hF (.free rfl) rfl rfl (ex_move rfl rfl) ?_; clear hF a; intro a hF
    refine ls_off hF (.on rfl rfl rfl rfl rfl) rfl rfl ?_; clear hF a; intro a hF
    refine ls_off hF (.on rfl rfl rfl rfl rfl) rfl rfl ?_; clear hF a; intro a hF
    refine ls_off hF (.on rfl rfl rfl rfl rfl) rfl rfl ?_; clear hF a; intro a hF
    refine ls_off hF (.on rfl rfl rfl rfl rfl) rfl rfl ?_; clear hF a; intro a hF
    refine ls_off hF (.on rfl rfl rfl rfl rfl) rfl rfl ?_; clear hF a; intro a hF
    refine ls_val hF (.free rfl) rfl rfl (ex_pick_f rfl rfl rfl) ?_; clear hF a; intro a hF
    refine ls_val hF (.free rfl) rfl rfl (ex_assign rfl rfl) ?_; clear hF a; intro a hF
    refine ls_nil ?_
    refine then_normal ?_
    refine wp_ret ?_
    refine (fin1 hF rfl rfl ⟨_, rfl, ?_⟩)
    exact ⟨false_B (by rintro ⟨h1, h2, h3⟩; have h4 := h3.pos; first | exact absurd h1 ‹¬ LOk p› | exact absurd ⟨h2, h3.rng⟩ ‹¬ (my = p.m ∧ ∀ k, 0 ≤ k → k < p.m → 0 ≤ y k ∧ y k ≤ 1073741824)› | omega | (obtain ⟨q, q0, q1, q2⟩ := hex1; have := h3.cols q q0 q1; omega)), hS.sub (.cons _ .slnil)⟩
  ·
   refine ls_off hF (.on rfl rfl rfl rfl rfl) rfl rfl ?_; clear hF a; intro a hF
   refine ls_off hF (.on rfl rfl rfl rfl rfl) rfl rfl ?_; clear hF a; intro a hF
   refine ls_off hF (.on rfl rfl rfl rfl rfl) rfl rfl ?_; clear hF a; intro a hF
   refine ls_off hF (.on rfl rfl rfl rfl rfl) rfl rfl ?_; clear hF a; intro a hF
   refine ls_off hF (.on rfl rfl rfl rfl rfl) rfl rfl ?_; clear hF a; intro a hF
   refine ls_val hF (.free rfl) rfl rfl (ex_pick_f rfl rfl rfl) ?_; clear hF a; intro a hF
   refine ls_val hF (.free rfl) rfl rfl (ex_move rfl rfl) ?_; clear hF a; intro a hF
   refine ls_off hF (.on rfl rfl rfl rfl rfl) rfl rfl ?_; clear hF a; intro a hF
   refine ls_off hF (.on rfl rfl rfl rfl rfl) rfl rfl ?_; clear hF a; intro a hF
   refine ls_off hF (.on rfl rfl rfl rfl rfl) rfl rfl ?_; clear hF a; intro a hF
   refine ls_off hF (.on rfl rfl rfl rfl rfl) rfl rfl ?_; clear hF a; intro a hF
   refine ls_off hF (.on rfl rfl rfl rfl rfl) rfl rfl ?_; clear hF a; intro a hF
   refine ls_val hF (.free rfl) rfl rfl (ex_pick_f rfl rfl rfl) ?_; clear hF a; intro a hF
   refine ls_val hF (.free rfl) rfl rfl (ex_move rfl rfl) ?_; clear hF a; intro a hF
   refine ls_off hF (.on rfl rfl rfl rfl rfl) rfl rfl ?_; clear hF a; intro a hF
   refine ls_off hF (.on rfl rfl rfl rfl rfl) rfl rfl ?_; clear hF a; intro a hF
   refine ls_off hF (.on rfl rfl rfl rfl rfl) rfl rfl ?_; clear hF a; intro a hF
   refine ls_off hF (.on rfl rfl rfl rfl rfl) rfl rfl ?_; clear hF a; intro a hF
   refine ls_off hF (.on rfl rfl rfl rfl rfl) rfl rfl ?_; clear hF a; intro a hF
   refine ls_val hF (.free rfl) rfl rfl (ex_pick_f rfl rfl rfl) ?_; clear hF a; intro a hF
   refine ls_val hF (.free rfl) rfl rfl (ex_assign rfl rfl) ?_; clear hF a; intro a hF
   refine ls_nil ?_
   refine then_normal ?_
   refine wp_ret ?_
   refine (fin1 hF rfl rfl ⟨_, rfl, ?_⟩)
   exact ⟨false_B (by rintro ⟨h1, h2, h3⟩; have h4 := h3.pos; first | exact absurd h1 ‹¬ LOk p› | exact absurd ⟨h2, h3.rng⟩ ‹¬ (my = p.m ∧ ∀ k, 0 ≤ k → k < p.m → 0 ≤ y k ∧ y k ≤ 1073741824)› | omega | (obtain ⟨q, q0, q1, q2⟩ := hex1; have := h3.cols q q0 q1; omega)), hS.sub (.cons _ .slnil)⟩

set_option maxRecDepth 20000 in
theorem c_rproves {vc vA vb : Value} {vq : Int → Value} {p : Lp} {vy : Value} {y : Int → Int} {my : Int} (w0 : World) (hL : LAt w0 vc vA vb vq p) (hy : Row w0 vy 1 my (ints y)) :
    Calls Try.prog 31 [.agg #[vc, vA, vb], vy].toArray w0 fun e w => ∃ v, e = .returned v ∧ v = B (LOk p ∧ my = p.m ∧ RefS p y) ∧ Sat w0 w [] := by
  have hn := hL.c.slh.n0; have hn1 := hL.c.slh.n1; have hm := hL.A.row.slh.n0; have hm1 := hL.A.row.slh.n1; have hk := hL.b.slh.n0; have hk1 := hL.b.slh.n1
  refine enterS (vs := [.agg #[vc, vA, vb], vy]) Try.func31 rfl Try.ntmps31 rfl ?_
  intro a w hS hF
  refine cw_seq ?_
  refine wp_region_lit ?_
  refine ls_any hF (.free rfl) rfl rfl (ex_box (cs := [vc, vA, vb]) rfl hS rfl rfl) ?_; clear hF; rintro _ w ⟨g1, rfl, hS⟩ a hF
  replace hS : Sat w0 w [.blk g1 [vc, vA, vb]] := hS
  refine ls_val hF (.free rfl) rfl rfl (ex_assign rfl rfl) ?_; clear hF a; intro a hF
  refine ls_nil ?_
  refine then_normal ?_
  refine cw_seq ?_
  refine cw_seq ?_
  refine wp_region_lit ?_
  refine ls_val hF (.free rfl) rfl rfl (ex_loads_blk 0 rfl st_25 rfl hS rfl rfl) ?_; clear hF a; intro a hF
  refine ls_call hF (.free rfl) rfl rfl (ex_call0 rfl rfl cl_14 (args_cons rfl args0)) (c_rvalid (p := p) w (hL.below hS.below)) ?_; clear hF; rintro _ w ⟨rfl, hS'⟩ a hF
  replace hS : Sat w0 w [.blk g1 [vc, vA, vb]] := hS.comp hS'; clear hS'
  refine ls_val hF (.free rfl) rfl rfl (ex_not rfl rfl) ?_; clear hF a; intro a hF
  refine ls_val hF (.free rfl) rfl rfl (ex_move rfl rfl) ?_; clear hF a; intro a hF
  refine by_slot hF (d := 9) rfl ?_ ?_ <;> clear hF <;> intro hc hF
  ·
   refine ls_off hF (.on rfl rfl rfl rfl rfl) rfl rfl ?_; clear hF a; intro a hF
   refine ls_off hF (.on rfl rfl rfl rfl rfl) rfl rfl ?_; clear hF a; intro a hF
   refine ls_off hF (.on rfl rfl rfl rfl rfl) rfl rfl ?_; clear hF a; intro a hF
   refine ls_off hF (.on rfl rfl rfl rfl rfl) rfl rfl ?_; clear hF a; intro a hF
   refine ls_off hF (.on rfl rfl rfl rfl rfl) rfl rfl ?_; clear hF a; intro a hF
   refine ls_off hF (.on rfl rfl rfl rfl rfl) rfl rfl ?_; clear hF a; intro a hF
   refine ls_val hF (.free rfl) rfl rfl (ex_pick_t rfl rfl rfl) ?_; clear hF a; intro a hF
   refine ls_val hF (.free rfl) rfl rfl (ex_move rfl rfl) ?_; clear hF a; intro a hF
   refine ls_off hF (.on rfl rfl rfl rfl rfl) rfl rfl ?_; clear hF a; intro a hF
   refine ls_off hF (.on rfl rfl rfl rfl rfl) rfl rfl ?_; clear hF a; intro a hF
   refine ls_off hF (.on rfl rfl rfl rfl rfl) rfl rfl ?_; clear hF a; intro a hF
   refine ls_val hF (.free rfl) rfl rfl (ex_pick_t rfl rfl rfl) ?_; clear hF a; intro a hF
   refine ls_nil ?_
   refine then_normal ?_
   refine cw_t hF rfl ?_
   refine cw_seq ?_
   refine wp_region_lit ?_
   refine ls_val hF (.free rfl) rfl rfl (ex_assign rfl rfl) ?_; clear hF a; intro a hF
   refine ls_nil ?_
   refine then_normal ?_
   refine wp_ret ?_
   refine then_ret ((fin1 hF rfl rfl ⟨_, rfl, ?_⟩))
   exact ⟨false_B (by rintro ⟨h1, h2, h3⟩; have h4 := h3.pos; first | exact absurd h1 ‹¬ LOk p› | exact absurd (fun k k0 k1 => h3.rng k k0 (by omega)) ‹¬ (∀ k, 0 ≤ k → k < my → 0 ≤ y k ∧ y k ≤ 1073741824)› | omega | (have e7 := h3.cols j j0 (by omega); rw [wgt_dotp] at e7; omega)), hS.sub (.cons _ .slnil)⟩
  ·
   refine ls_val hF (.on rfl rfl rfl rfl rfl) rfl rfl (ex_move rfl rfl) ?_; clear hF a; intro a hF
   refine ls_val hF (.on rfl rfl rfl rfl rfl) rfl rfl (ex_len rfl sl_22 rfl hy.slh) ?_; clear hF a; intro a hF
   refine ls_val hF (.on rfl rfl rfl rfl rfl) rfl rfl (ex_field (b := ⟨g1, 1, none⟩) rfl fd_25_1 rfl rfl) ?_; clear hF a; intro a hF
   refine ls_val hF (.on rfl rfl rfl rfl rfl) rfl rfl (ex_load_blk 0 rfl pl_23 rfl hS rfl rfl) ?_; clear hF a; intro a hF
   refine ls_val hF (.on rfl rfl rfl rfl rfl) rfl rfl (ex_len rfl sl_23 rfl hL.A.row.slh) ?_; clear hF a; intro a hF
   refine ls_val hF (.on rfl rfl rfl rfl rfl) rfl rfl (ex_neq rfl rfl rfl) ?_; clear hF a; intro a hF
   refine ls_val hF (.free rfl) rfl rfl (ex_pick_f rfl rfl rfl) ?_; clear hF a; intro a hF
   refine ls_val hF (.free rfl) rfl rfl (ex_move rfl rfl) ?_; clear hF a; intro a hF
   refine by_slot hF (d := 17) rfl ?_ ?_ <;> clear hF <;> intro hc hF
   ·
    refine ls_off hF (.on rfl rfl rfl rfl rfl) rfl rfl ?_; clear hF a; intro a hF
    refine ls_off hF (.on rfl rfl rfl rfl rfl) rfl rfl ?_; clear hF a; intro a hF
    refine ls_off hF (.on rfl rfl rfl rfl rfl) rfl rfl ?_; clear hF a; intro a hF
    refine ls_val hF (.free rfl) rfl rfl (ex_pick_t rfl rfl rfl) ?_; clear hF a; intro a hF
    refine ls_nil ?_
    refine then_normal ?_
    refine cw_t hF rfl ?_
    refine cw_seq ?_
    refine wp_region_lit ?_
    refine ls_val hF (.free rfl) rfl rfl (ex_assign rfl rfl) ?_; clear hF a; intro a hF
    refine ls_nil ?_
    refine then_normal ?_
    refine wp_ret ?_
    refine then_ret ((fin1 hF rfl rfl ⟨_, rfl, ?_⟩))
    exact ⟨false_B (by rintro ⟨h1, h2, h3⟩; have h4 := h3.pos; first | exact absurd h1 ‹¬ LOk p› | exact absurd (fun k k0 k1 => h3.rng k k0 (by omega)) ‹¬ (∀ k, 0 ≤ k → k < my → 0 ≤ y k ∧ y k ≤ 1073741824)› | omega | (have e7 := h3.cols j j0 (by omega); rw [wgt_dotp] at e7; omega)), hS.sub (.cons _ .slnil)⟩
   ·
    refine ls_val hF (.on rfl rfl rfl rfl rfl) rfl rfl (ex_move rfl rfl) ?_; clear hF a; intro a hF
    refine ls_call hF (.on rfl rfl rfl rfl rfl) rfl rfl (ex_call0 rfl rfl cl_39 (args_cons rfl (args_cons rfl (args_cons rfl args0)))) (c_within (n := my) (lo := 0) (hi := 1073741824) (f := y) w (hy.below hS.below)) ?_; clear hF; rintro _ w ⟨rfl, hS'⟩ a hF
    replace hS : Sat w0 w [.blk g1 [vc, vA, vb]] := hS.comp hS'; clear hS'
    refine ls_val hF (.on rfl rfl rfl rfl rfl) rfl rfl (ex_not rfl rfl) ?_; clear hF a; intro a hF
    refine ls_val hF (.free rfl) rfl rfl (ex_pick_f rfl rfl rfl) ?_; clear hF a; intro a hF
    refine ls_nil ?_
    refine then_normal ?_
    refine cw_if hF rfl (fun hc => ?_) (fun hc => ?_)
    ·
     refine cw_seq ?_
     refine wp_region_lit ?_
     refine ls_val hF (.free rfl) rfl rfl (ex_assign rfl rfl) ?_; clear hF a; intro a hF
     refine ls_nil ?_
     refine then_normal ?_
     refine wp_ret ?_
     refine then_ret ((fin1 hF rfl rfl ⟨_, rfl, ?_⟩))
     exact ⟨false_B (by rintro ⟨h1, h2, h3⟩; have h4 := h3.pos; first | exact absurd h1 ‹¬ LOk p› | exact absurd (fun k k0 k1 => h3.rng k k0 (by omega)) ‹¬ (∀ k, 0 ≤ k → k < my → 0 ≤ y k ∧ y k ≤ 1073741824)› | omega | (have e7 := h3.cols j j0 (by omega); rw [wgt_dotp] at e7; omega)), hS.sub (.cons _ .slnil)⟩
    ·
     refine wp_skip ?_
     refine then_normal ?_
     refine cw_seq ?_
     refine cw_seq ?_
     refine wp_region_lit ?_
     refine ls_val hF (.free rfl) rfl rfl (ex_assign rfl rfl) ?_; clear hF a; intro a hF
     refine ls_nil ?_
     refine then_normal ?_
     refine wp_block ?_
     have hl : LOk p := by first | assumption | exact Classical.not_not.1 ‹¬ ¬ (LOk p)›
     have b1 := hl.n1
     have b2 := hl.n2
     have b3 := hl.m2
     have b4 := hl.k
     have hwy : ∀ k, 0 ≤ k → k < my → 0 ≤ y k ∧ y k ≤ 1073741824 := by first | assumption | exact Classical.not_not.1 ‹¬ ¬ (∀ k, 0 ≤ k → k < my → 0 ≤ y k ∧ y k ≤ 1073741824)›
     have hpy : ∀ k, 0 ≤ k → k < p.m → 0 ≤ y k ∧ y k ≤ 1073741824 := fun k k0 k1 => hwy k k0 (by omega)
     refine cw_loop (fun mm a w => ∃ (j : Int), mm = ((p.n - j).toNat) ∧ (0 ≤ j) ∧ (j ≤ p.n) ∧ (∀ k, 0 ≤ k → k < j → wgt p.A y p.m.toNat k ≤ 0) ∧ Fr a 40 [(1, vy), (2, .pointer (some ⟨g1, 0, none⟩)), (5, .int .i64 j)] ∧ Sat w0 w [.blk g1 [vc, vA, vb]]) ?_ ?_ (m := ((p.n - 0).toNat))
     ·
      refine ⟨0, rfl, (by omega), (by omega), ?_, (hF.pick (hF.pick (hF.pick hF.nil 5 rfl) 2 rfl) 1 rfl), hS⟩
      ·
       intro k k0 k1; omega
     ·
      clear hF hS a w
      rintro mm a w ⟨j, rfl, j0, j1, hcw, hF, hS⟩
      refine cw_seq ?_
      refine cw_seq ?_
      refine wp_region_lit ?_
      refine ls_val hF (.free rfl) rfl rfl (ex_move rfl rfl) ?_; clear hF a; intro a hF
      refine ls_val hF (.free rfl) rfl rfl (ex_field (b := ⟨g1, 0, none⟩) rfl fd_25_0 rfl rfl) ?_; clear hF a; intro a hF
      refine ls_val hF (.free rfl) rfl rfl (ex_load_blk 0 rfl pl_22 rfl hS rfl rfl) ?_; clear hF a; intro a hF
      refine ls_val hF (.free rfl) rfl rfl (ex_len rfl sl_22 rfl hL.c.slh) ?_; clear hF a; intro a hF
      refine ls_val hF (.free rfl) rfl rfl (ex_lss rfl rfl rfl) ?_; clear hF a; intro a hF
      refine ls_nil ?_
      refine then_normal ?_
      refine cw_if hF rfl (fun hc => ?_) (fun hc => ?_)
      ·
       refine wp_skip ?_
       refine then_normal ?_
       refine cw_seq ?_
       refine wp_block ?_
       refine cw_seq ?_
       refine wp_region_lit ?_
       refine ls_val hF (.free rfl) rfl rfl (ex_loads_blk 0 rfl st_25 rfl hS rfl rfl) ?_; clear hF a; intro a hF
       refine ls_val hF (.free rfl) rfl rfl (ex_move rfl rfl) ?_; clear hF a; intro a hF
       refine ls_call hF (.free rfl) rfl rfl (ex_call0 rfl rfl cl_42 (args_cons rfl (args_cons rfl args0))) (c_column (p := p) (j := j) w (hL.below hS.below) hl (by omega) (by omega)) ?_; clear hF; rintro vq1 w ⟨_, rfl, hslq1, hS'⟩ a hF
       replace hS : Sat w0 w [.blk g1 [vc, vA, vb], .own vq1 1 3 p.m (ints (fun i => p.A i j))] := hS.comp hS'; clear hS'
       refine ls_val hF (.free rfl) rfl rfl (ex_move rfl rfl) ?_; clear hF a; intro a hF
       refine ls_call hF (.free rfl) rfl rfl (ex_call0 rfl rfl cl_41 (args_cons rfl (args_cons rfl args0))) (c_dot (n := p.m) (f := (fun i => p.A i j)) (m := my) (g := y) w (hS.rowN 1 rfl) (hy.below hS.below) (by omega) (by omega) (fun k k0 k1 => (hl.rows k k0 (by omega)).2 j j0 (by omega)) (fun k k0 k1 => by have := hpy k k0 (by omega); omega)) ?_; clear hF; rintro _ w ⟨rfl, hS'⟩ a hF
       replace hS : Sat w0 w [.blk g1 [vc, vA, vb], .own vq1 1 3 p.m (ints (fun i => p.A i j))] := hS.comp hS'; clear hS'
       refine ls_val hF (.free rfl) rfl rfl (ex_gtr rfl rfl rfl) ?_; clear hF a; intro a hF
       refine ls_nil ?_
       refine then_normal ?_
       refine cw_if hF rfl (fun hc => ?_) (fun hc => ?_)
       ·
        refine cw_seq ?_
        refine wp_region_lit ?_
        refine ls_val hF (.free rfl) rfl rfl (ex_assign rfl rfl) ?_; clear hF a; intro a hF
        refine ls_nil ?_
        refine then_normal ?_
        refine wp_ret ?_
        refine inb_ret (then_ret (then_ret (inb_ret (then_ret ((fin1 hF rfl rfl ⟨_, rfl, ?_⟩))))))
        exact ⟨false_B (by rintro ⟨h1, h2, h3⟩; have h4 := h3.pos; first | exact absurd h1 ‹¬ LOk p› | exact absurd (fun k k0 k1 => h3.rng k k0 (by omega)) ‹¬ (∀ k, 0 ≤ k → k < my → 0 ≤ y k ∧ y k ≤ 1073741824)› | omega | (have e7 := h3.cols j j0 (by omega); rw [wgt_dotp] at e7; omega)), hS.sub (.cons _ (.cons _ .slnil))⟩
       ·
        refine wp_skip ?_
        refine inb_normal ?_
        refine then_normal ?_
        refine wp_region_lit ?_
        refine ls_val hF (.free rfl) rfl rfl (ex_move rfl rfl) ?_; clear hF a; intro a hF
        refine ls_val hF (.free rfl) rfl rfl (ex_add (r := j + 1) rfl rfl rfl (by omega) (by unfold I64; omega)) ?_; clear hF a; intro a hF
        refine ls_val hF (.free rfl) rfl rfl (ex_assign rfl rfl) ?_; clear hF a; intro a hF
        refine ls_nil ?_
        refine then_normal ?_
        refine ⟨_, (by omega), j + 1, rfl, (by omega), (by omega), ?_, (hF.pick (hF.pick (hF.pick hF.nil 5 rfl) 2 rfl) 1 rfl), hS.sub (.cons_cons _ (.cons _ .slnil))⟩
        ·
         intro k k0 k1; rcases Int.lt_or_eq_of_le (show k ≤ j by omega) with hk | hk; exact hcw k k0 hk; rw [hk, wgt_dotp]; omega
      ·
       refine wp_exit ?_
       refine then_exit ?_
       refine then_exit ?_
       refine inb_hit ?_
       refine then_normal ?_
       refine cw_seq ?_
       refine wp_region_lit ?_
       refine ls_val hF (.free rfl) rfl rfl (ex_field (b := ⟨g1, 2, none⟩) rfl fd_25_2 rfl rfl) ?_; clear hF a; intro a hF
       refine ls_val hF (.free rfl) rfl rfl (ex_load_blk 0 rfl pl_22 rfl hS rfl rfl) ?_; clear hF a; intro a hF
       refine ls_val hF (.free rfl) rfl rfl (ex_move rfl rfl) ?_; clear hF a; intro a hF
       refine ls_call hF (.free rfl) rfl rfl (ex_call0 rfl rfl cl_41 (args_cons rfl (args_cons rfl args0))) (c_dot (n := p.k) (f := p.b) (m := my) (g := y) w (hL.b.below hS.below) (hy.below hS.below) (by omega) (by omega) (fun k k0 k1 => hl.b k k0 (by omega)) (fun k k0 k1 => by have := hpy k k0 (by omega); omega)) ?_; clear hF; rintro _ w ⟨rfl, hS'⟩ a hF
       replace hS : Sat w0 w [.blk g1 [vc, vA, vb]] := hS.comp hS'; clear hS'
       refine ls_val hF (.free rfl) rfl rfl (ex_gtr rfl rfl rfl) ?_; clear hF a; intro a hF
       refine ls_val hF (.free rfl) rfl rfl (ex_assign rfl rfl) ?_; clear hF a; intro a hF
       refine ls_nil ?_
       refine then_normal ?_
       refine wp_ret ?_
       refine (fin1 hF rfl rfl ⟨_, rfl, ?_⟩)
       exact ⟨B_congr ⟨fun hx => ⟨hl, by omega, hpy, fun k k0 k1 => hcw k k0 (by omega), by rw [← b4]; omega⟩, fun h => by have h4 := h.2.2.pos; rw [← b4] at h4; omega⟩, hS.sub (.cons _ .slnil)⟩

end Go.Proofs.Ytakgjpmhbfieeaa
