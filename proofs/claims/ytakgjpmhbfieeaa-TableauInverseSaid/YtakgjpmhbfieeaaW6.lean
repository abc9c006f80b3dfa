/- The walks of Valid and Start, of tableau. -/
import Derived.Test.YtakgjpmhbfieeaaW5
namespace Go.Proofs.Ytakgjpmhbfieeaa
open Go Go.RowKit Go.Proofs.Gw
set_option linter.unusedVariables false

theorem cl_36 : calledT Try.prog 36 = true := by kernel_rfl
theorem fd_34_0 : fieldT Try.prog 34 0 = some 0 := by kernel_rfl
theorem fd_34_1 : fieldT Try.prog 34 1 = some 1 := by kernel_rfl
theorem fd_34_2 : fieldT Try.prog 34 2 = some 2 := by kernel_rfl
theorem st_34 : structT Try.prog 34 = some 3 := by kernel_rfl
set_option maxRecDepth 20000 in
theorem c_valid {vc vA vb : Value} {vq : Int → Value} {p : Lp} (w0 : World) (hL : LAt w0 vc vA vb vq p) :
    Calls Try.prog 36 [.agg #[vc, vA, vb]].toArray w0 fun e w => ∃ v, e = .returned v ∧ v = B (LOk p) ∧ Sat w0 w [] := by
  have hn := hL.c.slh.n0; have hn1 := hL.c.slh.n1; have hm := hL.A.row.slh.n0; have hm1 := hL.A.row.slh.n1; have hk := hL.b.slh.n0; have hk1 := hL.b.slh.n1
  refine enterS (vs := [.agg #[vc, vA, vb]]) Try.func36 rfl Try.ntmps36 rfl ?_
  intro a w hS hF
  refine cw_seq ?_
  refine wp_region_lit ?_
  refine ls_any hF (.free rfl) rfl rfl (ex_box (cs := [vc, vA, vb]) rfl hS rfl rfl) ?_; clear hF; rintro _ w ⟨g1, rfl, hS⟩ a hF
  replace hS : Sat w0 w [.blk g1 [vc, vA, vb]] := hS
  refine ls_val hF (.free rfl) rfl rfl (ex_assign rfl rfl) ?_; clear hF a; intro a hF
  refine ls_nil ?_
  refine then_normal ?_
  refine cw_seq ?_
  refine wp_region_lit ?_
  refine ls_val hF (.free rfl) rfl rfl (ex_field (b := ⟨g1, 0, none⟩) rfl fd_34_0 rfl rfl) ?_; clear hF a; intro a hF
  refine ls_val hF (.free rfl) rfl rfl (ex_load_blk 0 rfl pl_22 rfl hS rfl rfl) ?_; clear hF a; intro a hF
  refine ls_val hF (.free rfl) rfl rfl (ex_len rfl sl_22 rfl hL.c.slh) ?_; clear hF a; intro a hF
  refine ls_any hF (.free rfl) rfl rfl (ex_alloc (cs := [.int .i64 0]) rfl el_3 hS rfl) ?_; clear hF; rintro _ w ⟨g2, rfl, hS⟩ a hF
  replace hS : Sat w0 w [.blk g1 [vc, vA, vb], .blk g2 [.int .i64 0]] := hS
  refine ls_effx hF (.free rfl) rfl (st_blk 1 rfl pl_3 hS rfl rfl rfl rfl rfl) ?_; clear hS; rintro w hS
  replace hS : Sat w0 w [.blk g1 [vc, vA, vb], .blk g2 [.int .i64 p.n]] := hS
  refine ls_nil ?_
  refine then_normal ?_
  refine cw_seq ?_
  refine cw_seq ?_
  refine wp_region_lit ?_
  refine ls_val hF (.free rfl) rfl rfl (ex_load_blk 1 rfl pl_3 rfl hS rfl rfl) ?_; clear hF a; intro a hF
  refine ls_val hF (.free rfl) rfl rfl (ex_lss rfl rfl rfl) ?_; clear hF a; intro a hF
  refine ls_val hF (.free rfl) rfl rfl (ex_move rfl rfl) ?_; clear hF a; intro a hF
  refine by_slot hF (d := 10) rfl ?_ ?_ <;> clear hF <;> intro hc hF
  ·
   refine ls_off hF (.on rfl rfl rfl rfl rfl) rfl rfl ?_; clear hF a; intro a hF
   refine ls_off hF (.on rfl rfl rfl rfl rfl) rfl rfl ?_; clear hF a; intro a hF
   refine ls_val hF (.free rfl) rfl rfl (ex_pick_t rfl rfl rfl) ?_; clear hF a; intro a hF
   refine ls_val hF (.free rfl) rfl rfl (ex_move rfl rfl) ?_; clear hF a; intro a hF
   refine ls_off hF (.on rfl rfl rfl rfl rfl) rfl rfl ?_; clear hF a; intro a hF
   refine ls_off hF (.on rfl rfl rfl rfl rfl) rfl rfl ?_; clear hF a; intro a hF
   refine ls_off hF (.on rfl rfl rfl rfl rfl) rfl rfl ?_; clear hF a; intro a hF
   refine ls_off hF (.on rfl rfl rfl rfl rfl) rfl rfl ?_; clear hF a; intro a hF
   refine ls_val hF (.free rfl) rfl rfl (ex_pick_t rfl rfl rfl) ?_; clear hF a; intro a hF
   refine ls_val hF (.free rfl) rfl rfl (ex_move rfl rfl) ?_; clear hF a; intro a hF
   refine ls_off hF (.on rfl rfl rfl rfl rfl) rfl rfl ?_; clear hF a; intro a hF
   refine ls_off hF (.on rfl rfl rfl rfl rfl) rfl rfl ?_; clear hF a; intro a hF
   refine ls_off hF (.on rfl rfl rfl rfl rfl) rfl rfl ?_; clear hF a; intro a hF
   refine ls_off hF (.on rfl rfl rfl rfl rfl) rfl rfl ?_; clear hF a; intro a hF
   refine ls_off hF (.on rfl rfl rfl rfl rfl) rfl rfl ?_; clear hF a; intro a hF
   refine ls_off hF (.on rfl rfl rfl rfl rfl) rfl rfl ?_; clear hF a; intro a hF
   refine ls_off hF (.on rfl rfl rfl rfl rfl) rfl rfl ?_; clear hF a; intro a hF
   refine ls_val hF (.free rfl) rfl rfl (ex_pick_t rfl rfl rfl) ?_; clear hF a; intro a hF
   refine ls_val hF (.free rfl) rfl rfl (ex_move rfl rfl) ?_; clear hF a; intro a hF
   refine ls_off hF (.on rfl rfl rfl rfl rfl) rfl rfl ?_; clear hF a; intro a hF
   refine ls_off hF (.on rfl rfl rfl rfl rfl) rfl rfl ?_; clear hF a; intro a hF
   refine ls_off hF (.on rfl rfl rfl rfl rfl) rfl rfl ?_; clear hF a; intro a hF
   refine ls_off hF (.on rfl rfl rfl rfl rfl) rfl rfl ?_; clear hF a; intro a hF
   refine ls_val hF (.free rfl) rfl rfl (ex_pick_t rfl rfl rfl) ?_; clear hF a; intro a hF
   refine ls_val hF (.free rfl) rfl rfl (ex_move rfl rfl) ?_; clear hF a; intro a hF
   refine ls_off hF (.on rfl rfl rfl rfl rfl) rfl rfl ?_; clear hF a; intro a hF
   refine ls_off hF (.on rfl rfl rfl rfl rfl) rfl rfl ?_; clear hF a; intro a hF
   refine ls_off hF (.on rfl rfl rfl rfl rfl) rfl rfl ?_; clear hF a; intro a hF
   refine ls_off hF (.on rfl rfl rfl rfl rfl) rfl rfl ?_; clear hF a; intro a hF
   refine ls_val hF (.free rfl) rfl rfl (ex_pick_t rfl rfl rfl) ?_; clear hF a; intro a hF
   refine ls_nil ?_
   refine then_normal ?_
   refine cw_t hF rfl ?_
   refine cw_seq ?_
   refine wp_region_lit ?_
   refine ls_val hF (.free rfl) rfl rfl (ex_assign rfl rfl) ?_; clear hF a; intro a hF
   refine ls_nil ?_
   refine then_normal ?_
   refine wp_ret ?_
   refine then_ret ((fin1 hF rfl rfl ⟨_, rfl, ?_⟩))
   exact ⟨false_B (by intro hl; have b1 := hl.n1; have b2 := hl.n2; have b3 := hl.m2; have b4 := hl.k; first | omega | exact absurd (fun j j0 j1 => by have := hl.c j j0 j1; omega) ‹¬ Btw p.c p.n 1000000› | exact absurd (fun j j0 j1 => hl.b j j0 (by omega)) ‹¬ Btw p.b p.k 1000000› | (obtain ⟨j, j0, j1, j2⟩ := hex1; have := hl.c j j0 j1; omega)), hS.sub (.cons _ (.cons _ .slnil))⟩
  ·
   refine ls_val hF (.on rfl rfl rfl rfl rfl) rfl rfl (ex_load_blk 1 rfl pl_3 rfl hS rfl rfl) ?_; clear hF a; intro a hF
   refine ls_val hF (.on rfl rfl rfl rfl rfl) rfl rfl (ex_gtr rfl rfl rfl) ?_; clear hF a; intro a hF
   refine ls_val hF (.free rfl) rfl rfl (ex_pick_f rfl rfl rfl) ?_; clear hF a; intro a hF
   refine ls_val hF (.free rfl) rfl rfl (ex_move rfl rfl) ?_; clear hF a; intro a hF
   refine by_slot hF (d := 14) rfl ?_ ?_ <;> clear hF <;> intro hc hF
   ·
    refine ls_off hF (.on rfl rfl rfl rfl rfl) rfl rfl ?_; clear hF a; intro a hF
    refine ls_off hF (.on rfl rfl rfl rfl rfl) rfl rfl ?_; clear hF a; intro a hF
    refine ls_off hF (.on rfl rfl rfl rfl rfl) rfl rfl ?_; clear hF a; intro a hF
    refine ls_off hF (.on rfl rfl rfl rfl rfl) rfl rfl ?_; clear hF a; intro a hF
    refine ls_val hF (.free rfl) rfl rfl (ex_pick_t rfl rfl rfl) ?_; clear hF a; intro a hF
    refine ls_val hF (.free rfl) rfl rfl (ex_move rfl rfl) ?_; clear hF a; intro a hF
    refine ls_off hF (.on rfl rfl rfl rfl rfl) rfl rfl ?_; clear hF a; intro a hF
    refine ls_off hF (.on rfl rfl rfl rfl rfl) rfl rfl ?_; clear hF a; intro a hF
    refine ls_off hF (.on rfl rfl rfl rfl rfl) rfl rfl ?_; clear hF a; intro a hF
    refine ls_off hF (.on rfl rfl rfl rfl rfl) rfl rfl ?_; clear hF a; intro a hF
    refine ls_off hF (.on rfl rfl rfl rfl rfl) rfl rfl ?_; clear hF a; intro a hF
    refine ls_off hF (.on rfl rfl rfl rfl rfl) rfl rfl ?_; clear hF a; intro a hF
    refine ls_off hF (.on rfl rfl rfl rfl rfl) rfl rfl ?_; clear hF a; intro a hF
    refine ls_val hF (.free rfl) rfl rfl (ex_pick_t rfl rfl rfl) ?_; clear hF a; intro a hF
    refine ls_val hF (.free rfl) rfl rfl (ex_move rfl rfl) ?_; clear hF a; intro a hF
    refine ls_off hF (.on rfl rfl rfl rfl rfl) rfl rfl ?_; clear hF a; intro a hF
    refine ls_off hF (.on rfl rfl rfl rfl rfl) rfl rfl ?_; clear hF a; intro a hF
    refine ls_off hF (.on rfl rfl rfl rfl rfl) rfl rfl ?_; clear hF a; intro a hF
    refine ls_off hF (.on rfl rfl rfl rfl rfl) rfl rfl ?_; clear hF a; intro a hF
    refine ls_val hF (.free rfl) rfl rfl (ex_pick_t rfl rfl rfl) ?_; clear hF a; intro a hF
    refine ls_val hF (.free rfl) rfl rfl (ex_move rfl rfl) ?_; clear hF a; intro a hF
    refine ls_off hF (.on rfl rfl rfl rfl rfl) rfl rfl ?_; clear hF a; intro a hF
    refine ls_off hF (.on rfl rfl rfl rfl rfl) rfl rfl ?_; clear hF a; intro a hF
    refine ls_off hF (.on rfl rfl rfl rfl rfl) rfl rfl ?_; clear hF a; intro a hF
    refine ls_off hF (.on rfl rfl rfl rfl rfl) rfl rfl ?_; clear hF a; intro a hF
    refine ls_val hF (.free rfl) rfl rfl (ex_pick_t rfl rfl rfl) ?_; clear hF a; intro a hF
    refine ls_nil ?_
    refine then_normal ?_
    refine cw_t hF rfl ?_
    refine cw_seq ?_
    refine wp_region_lit ?_
    refine ls_val hF (.free rfl) rfl rfl (ex_assign rfl rfl) ?_; clear hF a; intro a hF
    refine ls_nil ?_
    refine then_normal ?_
    refine wp_ret ?_
    refine then_ret ((fin1 hF rfl rfl ⟨_, rfl, ?_⟩))
    exact ⟨false_B (by intro hl; have b1 := hl.n1; have b2 := hl.n2; have b3 := hl.m2; have b4 := hl.k; first | omega | exact absurd (fun j j0 j1 => by have := hl.c j j0 j1; omega) ‹¬ Btw p.c p.n 1000000› | exact absurd (fun j j0 j1 => hl.b j j0 (by omega)) ‹¬ Btw p.b p.k 1000000› | (obtain ⟨j, j0, j1, j2⟩ := hex1; have := hl.c j j0 j1; omega)), hS.sub (.cons _ (.cons _ .slnil))⟩
   ·
    refine ls_val hF (.on rfl rfl rfl rfl rfl) rfl rfl (ex_field (b := ⟨g1, 1, none⟩) rfl fd_34_1 rfl rfl) ?_; clear hF a; intro a hF
    refine ls_val hF (.on rfl rfl rfl rfl rfl) rfl rfl (ex_load_blk 0 rfl pl_23 rfl hS rfl rfl) ?_; clear hF a; intro a hF
    refine ls_val hF (.on rfl rfl rfl rfl rfl) rfl rfl (ex_len rfl sl_23 rfl hL.A.row.slh) ?_; clear hF a; intro a hF
    refine ls_val hF (.on rfl rfl rfl rfl rfl) rfl rfl (ex_gtr rfl rfl rfl) ?_; clear hF a; intro a hF
    refine ls_val hF (.free rfl) rfl rfl (ex_pick_f rfl rfl rfl) ?_; clear hF a; intro a hF
    refine ls_val hF (.free rfl) rfl rfl (ex_move rfl rfl) ?_; clear hF a; intro a hF
    refine by_slot hF (d := 20) rfl ?_ ?_ <;> clear hF <;> intro hc hF
    ·
     refine ls_off hF (.on rfl rfl rfl rfl rfl) rfl rfl ?_; clear hF a; intro a hF
     refine ls_off hF (.on rfl rfl rfl rfl rfl) rfl rfl ?_; clear hF a; intro a hF
     refine ls_off hF (.on rfl rfl rfl rfl rfl) rfl rfl ?_; clear hF a; intro a hF
     refine ls_off hF (.on rfl rfl rfl rfl rfl) rfl rfl ?_; clear hF a; intro a hF
     refine ls_off hF (.on rfl rfl rfl rfl rfl) rfl rfl ?_; clear hF a; intro a hF
     refine ls_off hF (.on rfl rfl rfl rfl rfl) rfl rfl ?_; clear hF a; intro a hF
     refine ls_off hF (.on rfl rfl rfl rfl rfl) rfl rfl ?_; clear hF a; intro a hF
     refine ls_val hF (.free rfl) rfl rfl (ex_pick_t rfl rfl rfl) ?_; clear hF a; intro a hF
     refine ls_val hF (.free rfl) rfl rfl (ex_move rfl rfl) ?_; clear hF a; intro a hF
     refine ls_off hF (.on rfl rfl rfl rfl rfl) rfl rfl ?_; clear hF a; intro a hF
     refine ls_off hF (.on rfl rfl rfl rfl rfl) rfl rfl ?_; clear hF a; intro a hF
     refine ls_off hF (.on rfl rfl rfl rfl rfl) rfl rfl ?_; clear hF a; intro a hF
     refine ls_off hF (.on rfl rfl rfl rfl rfl) rfl rfl ?_; clear hF a; intro a hF
     refine ls_val hF (.free rfl) rfl rfl (ex_pick_t rfl rfl rfl) ?_; clear hF a; intro a hF
     refine ls_val hF (.free rfl) rfl rfl (ex_move rfl rfl) ?_; clear hF a; intro a hF
     refine ls_off hF (.on rfl rfl rfl rfl rfl) rfl rfl ?_; clear hF a; intro a hF
     refine ls_off hF (.on rfl rfl rfl rfl rfl) rfl rfl ?_; clear hF a; intro a hF
     refine ls_off hF (.on rfl rfl rfl rfl rfl) rfl rfl ?_; clear hF a; intro a hF
     refine ls_off hF (.on rfl rfl rfl rfl rfl) rfl rfl ?_; clear hF a; intro a hF
     refine ls_val hF (.free rfl) rfl rfl (ex_pick_t rfl rfl rfl) ?_; clear hF a; intro a hF
     refine ls_nil ?_
     refine then_normal ?_
     refine cw_t hF rfl ?_
     refine cw_seq ?_
     refine wp_region_lit ?_
     refine ls_val hF (.free rfl) rfl rfl (ex_assign rfl rfl) ?_; clear hF a; intro a hF
     refine ls_nil ?_
     refine then_normal ?_
     refine wp_ret ?_
     refine then_ret ((fin1 hF rfl rfl ⟨_, rfl, ?_⟩))
     exact ⟨false_B (by intro hl; have b1 := hl.n1; have b2 := hl.n2; have b3 := hl.m2; have b4 := hl.k; first | omega | exact absurd (fun j j0 j1 => by have := hl.c j j0 j1; omega) ‹¬ Btw p.c p.n 1000000› | exact absurd (fun j j0 j1 => hl.b j j0 (by omega)) ‹¬ Btw p.b p.k 1000000› | (obtain ⟨j, j0, j1, j2⟩ := hex1; have := hl.c j j0 j1; omega)), hS.sub (.cons _ (.cons _ .slnil))⟩
    ·
     refine ls_val hF (.on rfl rfl rfl rfl rfl) rfl rfl (ex_field (b := ⟨g1, 2, none⟩) rfl fd_34_2 rfl rfl) ?_; clear hF a; intro a hF
     refine ls_val hF (.on rfl rfl rfl rfl rfl) rfl rfl (ex_load_blk 0 rfl pl_22 rfl hS rfl rfl) ?_; clear hF a; intro a hF
     refine ls_val hF (.on rfl rfl rfl rfl rfl) rfl rfl (ex_len rfl sl_22 rfl hL.b.slh) ?_; clear hF a; intro a hF
     refine ls_val hF (.on rfl rfl rfl rfl rfl) rfl rfl (ex_field (b := ⟨g1, 1, none⟩) rfl fd_34_1 rfl rfl) ?_; clear hF a; intro a hF
     refine ls_val hF (.on rfl rfl rfl rfl rfl) rfl rfl (ex_load_blk 0 rfl pl_23 rfl hS rfl rfl) ?_; clear hF a; intro a hF
     refine ls_val hF (.on rfl rfl rfl rfl rfl) rfl rfl (ex_len rfl sl_23 rfl hL.A.row.slh) ?_; clear hF a; intro a hF
     refine ls_val hF (.on rfl rfl rfl rfl rfl) rfl rfl (ex_neq rfl rfl rfl) ?_; clear hF a; intro a hF
     refine ls_val hF (.free rfl) rfl rfl (ex_pick_f rfl rfl rfl) ?_; clear hF a; intro a hF
     refine ls_val hF (.free rfl) rfl rfl (ex_move rfl rfl) ?_; clear hF a; intro a hF
     refine by_slot hF (d := 29) rfl ?_ ?_ <;> clear hF <;> intro hc hF
     ·
      refine ls_off hF (.on rfl rfl rfl rfl rfl) rfl rfl ?_; clear hF a; intro a hF
      refine ls_off hF (.on rfl rfl rfl rfl rfl) rfl rfl ?_; clear hF a; intro a hF
      refine ls_off hF (.on rfl rfl rfl rfl rfl) rfl rfl ?_; clear hF a; intro a hF
      refine ls_off hF (.on rfl rfl rfl rfl rfl) rfl rfl ?_; clear hF a; intro a hF
      refine ls_val hF (.free rfl) rfl rfl (ex_pick_t rfl rfl rfl) ?_; clear hF a; intro a hF
      refine ls_val hF (.free rfl) rfl rfl (ex_move rfl rfl) ?_; clear hF a; intro a hF
      refine ls_off hF (.on rfl rfl rfl rfl rfl) rfl rfl ?_; clear hF a; intro a hF
      refine ls_off hF (.on rfl rfl rfl rfl rfl) rfl rfl ?_; clear hF a; intro a hF
      refine ls_off hF (.on rfl rfl rfl rfl rfl) rfl rfl ?_; clear hF a; intro a hF
      refine ls_off hF (.on rfl rfl rfl rfl rfl) rfl rfl ?_; clear hF a; intro a hF
      refine ls_val hF (.free rfl) rfl rfl (ex_pick_t rfl rfl rfl) ?_; clear hF a; intro a hF
      refine ls_nil ?_
      refine then_normal ?_
      refine cw_t hF rfl ?_
      refine cw_seq ?_
      refine wp_region_lit ?_
      refine ls_val hF (.free rfl) rfl rfl (ex_assign rfl rfl) ?_; clear hF a; intro a hF
      refine ls_nil ?_
      refine then_normal ?_
      refine wp_ret ?_
      refine then_ret ((fin1 hF rfl rfl ⟨_, rfl, ?_⟩))
      exact ⟨false_B (by intro hl; have b1 := hl.n1; have b2 := hl.n2; have b3 := hl.m2; have b4 := hl.k; first | omega | exact absurd (fun j j0 j1 => by have := hl.c j j0 j1; omega) ‹¬ Btw p.c p.n 1000000› | exact absurd (fun j j0 j1 => hl.b j j0 (by omega)) ‹¬ Btw p.b p.k 1000000› | (obtain ⟨j, j0, j1, j2⟩ := hex1; have := hl.c j j0 j1; omega)), hS.sub (.cons _ (.cons _ .slnil))⟩
     ·
      refine ls_val hF (.on rfl rfl rfl rfl rfl) rfl rfl (ex_field (b := ⟨g1, 0, none⟩) rfl fd_34_0 rfl rfl) ?_; clear hF a; intro a hF
      refine ls_val hF (.on rfl rfl rfl rfl rfl) rfl rfl (ex_load_blk 0 rfl pl_22 rfl hS rfl rfl) ?_; clear hF a; intro a hF
      refine ls_call hF (.on rfl rfl rfl rfl rfl) rfl rfl (ex_call0 rfl rfl cl_43 (args_cons rfl (args_cons rfl args0))) (c_between (n := p.n) (m := 1000000) (f := p.c) w (hL.c.below hS.below) (by omega)) ?_; clear hF; rintro _ w ⟨rfl, hS'⟩ a hF
      replace hS : Sat w0 w [.blk g1 [vc, vA, vb], .blk g2 [.int .i64 p.n]] := hS.comp hS'; clear hS'
      refine ls_val hF (.on rfl rfl rfl rfl rfl) rfl rfl (ex_not rfl rfl) ?_; clear hF a; intro a hF
      refine ls_val hF (.free rfl) rfl rfl (ex_pick_f rfl rfl rfl) ?_; clear hF a; intro a hF
      refine ls_val hF (.free rfl) rfl rfl (ex_move rfl rfl) ?_; clear hF a; intro a hF
      refine by_slot hF (d := 35) rfl ?_ ?_ <;> clear hF <;> intro hc hF
      ·
       refine ls_off hF (.on rfl rfl rfl rfl rfl) rfl rfl ?_; clear hF a; intro a hF
       refine ls_off hF (.on rfl rfl rfl rfl rfl) rfl rfl ?_; clear hF a; intro a hF
       refine ls_off hF (.on rfl rfl rfl rfl rfl) rfl rfl ?_; clear hF a; intro a hF
       refine ls_off hF (.on rfl rfl rfl rfl rfl) rfl rfl ?_; clear hF a; intro a hF
       refine ls_val hF (.free rfl) rfl rfl (ex_pick_t rfl rfl rfl) ?_; clear hF a; intro a hF
       refine ls_nil ?_
       refine then_normal ?_
       refine cw_t hF rfl ?_
       refine cw_seq ?_
       refine wp_region_lit ?_
       refine ls_val hF (.free rfl) rfl rfl (ex_assign rfl rfl) ?_; clear hF a; intro a hF
       refine ls_nil ?_
       refine then_normal ?_
       refine wp_ret ?_
       refine then_ret ((fin1 hF rfl rfl ⟨_, rfl, ?_⟩))
       exact ⟨false_B (by intro hl; have b1 := hl.n1; have b2 := hl.n2; have b3 := hl.m2; have b4 := hl.k; first | omega | exact absurd (fun j j0 j1 => by have := hl.c j j0 j1; omega) ‹¬ Btw p.c p.n 1000000› | exact absurd (fun j j0 j1 => hl.b j j0 (by omega)) ‹¬ Btw p.b p.k 1000000› | (obtain ⟨j, j0, j1, j2⟩ := hex1; have := hl.c j j0 j1; omega)), hS.sub (.cons _ (.cons _ .slnil))⟩
      ·
       refine ls_val hF (.on rfl rfl rfl rfl rfl) rfl rfl (ex_field (b := ⟨g1, 2, none⟩) rfl fd_34_2 rfl rfl) ?_; clear hF a; intro a hF
       refine ls_val hF (.on rfl rfl rfl rfl rfl) rfl rfl (ex_load_blk 0 rfl pl_22 rfl hS rfl rfl) ?_; clear hF a; intro a hF
       refine ls_call hF (.on rfl rfl rfl rfl rfl) rfl rfl (ex_call0 rfl rfl cl_43 (args_cons rfl (args_cons rfl args0))) (c_between (n := p.k) (m := 1000000) (f := p.b) w (hL.b.below hS.below) (by omega)) ?_; clear hF; rintro _ w ⟨rfl, hS'⟩ a hF
       replace hS : Sat w0 w [.blk g1 [vc, vA, vb], .blk g2 [.int .i64 p.n]] := hS.comp hS'; clear hS'
       refine ls_val hF (.on rfl rfl rfl rfl rfl) rfl rfl (ex_not rfl rfl) ?_; clear hF a; intro a hF
       refine ls_val hF (.free rfl) rfl rfl (ex_pick_f rfl rfl rfl) ?_; clear hF a; intro a hF
       refine ls_nil ?_
       refine then_normal ?_
       refine cw_if hF rfl (fun hc => ?_) (fun hc => ?_)
       ·
        refine cw_seq ?_
        refine wp_region_lit ?_
        refine ls_val hF (.free rfl) rfl rfl (ex_assign rfl rfl) ?_; clear hF a; intro a hF
        refine ls_nil ?_
        refine then_normal ?_
        refine wp_ret ?_
        refine then_ret ((fin1 hF rfl rfl ⟨_, rfl, ?_⟩))
        exact ⟨false_B (by intro hl; have b1 := hl.n1; have b2 := hl.n2; have b3 := hl.m2; have b4 := hl.k; first | omega | exact absurd (fun j j0 j1 => by have := hl.c j j0 j1; omega) ‹¬ Btw p.c p.n 1000000› | exact absurd (fun j j0 j1 => hl.b j j0 (by omega)) ‹¬ Btw p.b p.k 1000000› | (obtain ⟨j, j0, j1, j2⟩ := hex1; have := hl.c j j0 j1; omega)), hS.sub (.cons _ (.cons _ .slnil))⟩
       ·
        refine wp_skip ?_
        refine then_normal ?_
        refine cw_seq ?_
        refine wp_region_lit ?_
        refine ls_val hF (.free rfl) rfl rfl (ex_makeFunc rfl (args_cons rfl args0)) ?_; clear hF a; intro a hF
        refine ls_val hF (.free rfl) rfl rfl (ex_assign rfl rfl) ?_; clear hF a; intro a hF
        refine ls_nil ?_
        refine then_normal ?_
        refine cw_seq ?_
        refine wp_region_lit ?_
        refine ls_val hF (.free rfl) rfl rfl (ex_field (b := ⟨g1, 0, none⟩) rfl fd_34_0 rfl rfl) ?_; clear hF a; intro a hF
        refine ls_val hF (.free rfl) rfl rfl (ex_load_blk 0 rfl pl_22 rfl hS rfl rfl) ?_; clear hF a; intro a hF
        refine ls_call hF (.free rfl) rfl rfl (ex_call0 rfl rfl cl_51 (args_cons rfl args0)) (c_min (n := p.n) (f := p.c) w (hL.c.below hS.below) (by omega)) ?_; clear hF; rintro _ w ⟨x1, rfl, hex1, hax1, hS'⟩ a hF
        replace hS : Sat w0 w [.blk g1 [vc, vA, vb], .blk g2 [.int .i64 p.n]] := hS.comp hS'; clear hS'
        refine ls_val hF (.free rfl) rfl rfl (ex_geq rfl rfl rfl) ?_; clear hF a; intro a hF
        refine ls_val hF (.free rfl) rfl rfl (ex_move rfl rfl) ?_; clear hF a; intro a hF
        refine by_slot hF (d := 46) rfl ?_ ?_ <;> clear hF <;> intro hc hF
        ·
         refine ls_val hF (.on rfl rfl rfl rfl rfl) rfl rfl (ex_field (b := ⟨g1, 1, none⟩) rfl fd_34_1 rfl rfl) ?_; clear hF a; intro a hF
         refine ls_val hF (.on rfl rfl rfl rfl rfl) rfl rfl (ex_load_blk 0 rfl pl_23 rfl hS rfl rfl) ?_; clear hF a; intro a hF
         refine ls_val hF (.on rfl rfl rfl rfl rfl) rfl rfl (ex_move rfl rfl) ?_; clear hF a; intro a hF
         refine ls_call hF (.on rfl rfl rfl rfl rfl) rfl rfl (ex_call0 rfl rfl cl_59 (args_cons rfl (args_cons rfl args0))) (c_comv (n := p.m) (q := p.n) (vv := vq) (ln := p.ln) (f := p.A) w (hL.A.below hS.below) (hS.cellN 1 rfl rfl) (by omega)) ?_; clear hF; rintro _ w ⟨rfl, hS'⟩ a hF
         replace hS : Sat w0 w [.blk g1 [vc, vA, vb], .blk g2 [.int .i64 p.n]] := hS.comp hS'; clear hS'
         refine ls_val hF (.on rfl rfl rfl rfl rfl) rfl rfl (ex_not rfl rfl) ?_; clear hF a; intro a hF
         refine ls_val hF (.free rfl) rfl rfl (ex_pick_t rfl rfl rfl) ?_; clear hF a; intro a hF
         refine ls_val hF (.free rfl) rfl rfl (ex_assign rfl rfl) ?_; clear hF a; intro a hF
         refine ls_nil ?_
         refine then_normal ?_
         refine wp_ret ?_
         refine (fin1 hF rfl rfl ⟨_, rfl, ?_⟩)
         refine ⟨B_congr ⟨fun hx => ?_, fun hl hx => ?_⟩, hS.sub (.cons _ (.cons _ .slnil))⟩
         · have hc1 := (Classical.not_not.1 ‹¬ ¬ (Btw p.c p.n 1000000)›); have hc2 := (Classical.not_not.1 ‹¬ ¬ (Btw p.b p.k 1000000)›)
           refine ⟨by omega, by omega, by omega, by omega, fun j j0 j1 => ⟨by have := hax1 j j0 j1; omega, (hc1 j j0 j1).2⟩, fun i i0 i1 => hc2 i i0 (by omega), fun i i0 i1 => ?_⟩
           have hy := Classical.not_not.1 fun hh => hx ⟨i, i0, i1, hh⟩
           exact ⟨hy.1, fun j j0 j1 => hy.2 j j0 (by have := hy.1; omega)⟩
         · obtain ⟨k, k0, k1, hh⟩ := hx
           have hr := hl.rows k k0 k1
           exact hh ⟨hr.1, fun j j0 j1 => hr.2 j j0 (by have := hr.1; omega)⟩
        ·
         refine ls_off hF (.on rfl rfl rfl rfl rfl) rfl rfl ?_; clear hF a; intro a hF
         refine ls_off hF (.on rfl rfl rfl rfl rfl) rfl rfl ?_; clear hF a; intro a hF
         refine ls_off hF (.on rfl rfl rfl rfl rfl) rfl rfl ?_; clear hF a; intro a hF
         refine ls_off hF (.on rfl rfl rfl rfl rfl) rfl rfl ?_; clear hF a; intro a hF
         refine ls_off hF (.on rfl rfl rfl rfl rfl) rfl rfl ?_; clear hF a; intro a hF
         refine ls_val hF (.free rfl) rfl rfl (ex_pick_f rfl rfl rfl) ?_; clear hF a; intro a hF
         refine ls_val hF (.free rfl) rfl rfl (ex_assign rfl rfl) ?_; clear hF a; intro a hF
         refine ls_nil ?_
         refine then_normal ?_
         refine wp_ret ?_
         refine (fin1 hF rfl rfl ⟨_, rfl, ?_⟩)
         exact ⟨false_B (by intro hl; have b1 := hl.n1; have b2 := hl.n2; have b3 := hl.m2; have b4 := hl.k; first | omega | exact absurd (fun j j0 j1 => by have := hl.c j j0 j1; omega) ‹¬ Btw p.c p.n 1000000› | exact absurd (fun j j0 j1 => hl.b j j0 (by omega)) ‹¬ Btw p.b p.k 1000000› | (obtain ⟨j, j0, j1, j2⟩ := hex1; have := hl.c j j0 j1; omega)), hS.sub (.cons _ (.cons _ .slnil))⟩

set_option maxRecDepth 20000 in
theorem c_start {vc vA vb : Value} {vq : Int → Value} {p : Lp} (w0 : World) (hL : LAt w0 vc vA vb vq p) :
    Calls Try.prog 20 [.agg #[vc, vA, vb]].toArray w0 fun e w => ∃ v, e = .returned v ∧ ∃ vB vF vC vv t' e, v = .tuple #[.agg #[.int .i64 t'.vars, .int .i64 t'.den, vB, vF, vC], .int .i64 e] ∧ StartR p t' e ∧ Slh vB t'.nb ∧ Slh vF t'.nf ∧ Slh vC t'.nc ∧ Sat w0 w [.own vB 1 3 t'.nb (ints t'.B), .own vF 1 3 t'.nf (ints t'.F), .own vC 1 22 t'.nc vv, .sem (Frame.rows 3 t'.nc vv t'.ln t'.C)] := by
  have hn := hL.c.slh.n0; have hn1 := hL.c.slh.n1; have hm := hL.A.row.slh.n0; have hm1 := hL.A.row.slh.n1; have hk := hL.b.slh.n0; have hk1 := hL.b.slh.n1
  refine enterS (vs := [.agg #[vc, vA, vb]]) Try.func20 rfl Try.ntmps20 rfl ?_
  intro a w hS hF
  refine cw_seq ?_
  refine wp_region_lit ?_
  refine ls_any hF (.free rfl) rfl rfl (ex_box (cs := [vc, vA, vb]) rfl hS rfl rfl) ?_; clear hF; rintro _ w ⟨g1, rfl, hS⟩ a hF
  replace hS : Sat w0 w [.blk g1 [vc, vA, vb]] := hS
  refine ls_any hF (.free rfl) rfl rfl (ex_alloc (cs := [.int .i64 0, .int .i64 0, .slice none 0 0, .slice none 0 0, .slice none 0 0]) rfl el_43 hS rfl) ?_; clear hF; rintro _ w ⟨g2, rfl, hS⟩ a hF
  replace hS : Sat w0 w [.blk g1 [vc, vA, vb], .blk g2 [.int .i64 0, .int .i64 0, .slice none 0 0, .slice none 0 0, .slice none 0 0]] := hS
  refine ls_val hF (.free rfl) rfl rfl (ex_assign rfl rfl) ?_; clear hF a; intro a hF
  refine ls_nil ?_
  refine then_normal ?_
  refine cw_seq ?_
  refine cw_seq ?_
  refine wp_region_lit ?_
  refine ls_val hF (.free rfl) rfl rfl (ex_loads_blk 0 rfl st_34 rfl hS rfl rfl) ?_; clear hF a; intro a hF
  refine ls_call hF (.free rfl) rfl rfl (ex_call0 rfl rfl cl_36 (args_cons rfl args0)) (c_valid (p := p) w (hL.below hS.below)) ?_; clear hF; rintro _ w ⟨rfl, hS'⟩ a hF
  replace hS : Sat w0 w [.blk g1 [vc, vA, vb], .blk g2 [.int .i64 0, .int .i64 0, .slice none 0 0, .slice none 0 0, .slice none 0 0]] := hS.comp hS'; clear hS'
  refine ls_val hF (.free rfl) rfl rfl (ex_not rfl rfl) ?_; clear hF a; intro a hF
  refine ls_nil ?_
  refine then_normal ?_
  refine cw_if hF rfl (fun hc => ?_) (fun hc => ?_)
  ·
   refine cw_seq ?_
   refine wp_region_lit ?_
   refine ls_val hF (.free rfl) rfl rfl (ex_any (w' := w) (r := .value (.agg #[.int .i64 0, .int .i64 0, .slice none 0 0, .slice none 0 0, .slice none 0 0])) (by intro _ _ h; cases h) rfl (by kernel_rfl)) ?_; clear hF a; intro a hF
   refine ls_effx hF (.free rfl) rfl (st_blks 1 (ds := [.int .i64 0, .int .i64 0, .slice none 0 0, .slice none 0 0, .slice none 0 0]) rfl st_43 hS rfl rfl rfl rfl (ones_cons rfl (ones_cons rfl (ones_cons rfl (ones_cons rfl (ones_cons rfl ones_nil)))))) ?_; clear hS; rintro w hS
   replace hS : Sat w0 w [.blk g1 [vc, vA, vb], .blk g2 [.int .i64 0, .int .i64 0, .slice none 0 0, .slice none 0 0, .slice none 0 0]] := hS
   refine ls_val hF (.free rfl) rfl rfl (ex_assign rfl rfl) ?_; clear hF a; intro a hF
   refine ls_nil ?_
   refine then_normal ?_
   refine wp_ret ?_
   refine then_ret ((fin_ct 1 hF rfl rfl rfl st_43 hS rfl rfl ⟨_, rfl, ?_⟩))
   exact ⟨_, _, _, fun _ => undef, Tb.zero, 1, rfl, .inl ⟨‹_›, rfl, rfl⟩, slh_nil, slh_nil, slh_nil, ((((hS.sub (.cons _ (.cons _ .slnil))).addnil 1 3 (ints Tb.zero.B)).addnil 1 3 (ints Tb.zero.F)).addnil 1 22 (fun _ => undef)).addrows 3 (fun _ => undef) Tb.zero.ln Tb.zero.C⟩
  ·
   refine wp_skip ?_
   refine then_normal ?_
   refine cw_seq ?_
   refine cw_cut (fun a w => ∃ (g3 : Nat) (v1 : Value) (v2 : Value) (v3 : Value), (Slh v2 (p.n + 1)) ∧ (Slh v3 1) ∧ Fr a 67 [(0, .agg #[vc, vA, vb]), (1, .pointer (some ⟨g1, 0, none⟩)), (2, .pointer (some ⟨g2, 0, none⟩)), (3, .int .i64 0), (8, .agg #[vc, vA, vb]), (9, B (LOk p)), (10, B (¬ (LOk p))), (12, .pointer (some ⟨g1, 0, none⟩)), (13, vc), (14, .int .i64 p.n), (16, .pointer (some ⟨g1, 0, none⟩)), (17, vc), (15, v1), (18, v2), (19, v3), (20, .agg #[.int .i64 p.n, .int .i64 1, .slice none 0 0, .slice none 0 0, v3]), (4, .pointer (some ⟨g3, 0, none⟩))] ∧ Sat w0 w [.blk g1 [vc, vA, vb], .blk g2 [.int .i64 0, .int .i64 0, .slice none 0 0, .slice none 0 0, .slice none 0 0], .own v2 1 3 (p.n + 1) (ints (cat 1 (fun _ => 0) p.c)), .own v3 1 22 1 (fun _ => v2), .blk g3 [.int .i64 p.n, .int .i64 1, .slice none 0 0, .slice none 0 0, v3]]) ?_ ?_
   ·
    refine dr_sat (m0 := [.blk g1 [vc, vA, vb], .blk g2 [.int .i64 0, .int .i64 0, .slice none 0 0, .slice none 0 0, .slice none 0 0]]) (m1 := [.blk g1 [vc, vA, vb], .blk g2 [.int .i64 0, .int .i64 0, .slice none 0 0, .slice none 0 0, .slice none 0 0]]) 10 mx_ hS (.cons_cons _ (.cons_cons _ .slnil)) (.cons_cons _ (.cons_cons _ .slnil)) rfl ?_; clear hS; intro w hS hcl hB
    refine dr_val hF hcl hB 0 rfl (.free rfl) rfl rfl (by kernel_rfl) rfl (fun w => (ex_field (b := ⟨g1, 0, none⟩) rfl fd_34_0 rfl rfl)) ?_; clear hF a hcl hB; intro a hF hcl hB
    have hl := (Classical.not_not.1 ‹¬ ¬ (LOk p)›)
    have b1 := hl.n1
    have b2 := hl.n2
    have b3 := hl.m2
    have b4 := hl.k
    refine dr_loadA hF hcl hB 1 rfl (.free rfl) rfl rfl (by kernel_rfl) rfl (fun w hS => (ex_load_blk 0 rfl pl_22 rfl hS rfl rfl)) ?_; clear hF a hcl hB; intro a hF hcl hB
    refine dr_val hF hcl hB 2 rfl (.free rfl) rfl rfl (by kernel_rfl) rfl (fun w => (ex_len rfl sl_22 rfl hL.c.slh)) ?_; clear hF a hcl hB; intro a hF hcl hB
    refine dr_val hF hcl hB 4 rfl (.free rfl) rfl rfl (by kernel_rfl) rfl (fun w => (ex_field (b := ⟨g1, 0, none⟩) rfl fd_34_0 rfl rfl)) ?_; clear hF a hcl hB; intro a hF hcl hB
    refine dr_loadA hF hcl hB 5 rfl (.free rfl) rfl rfl (by kernel_rfl) rfl (fun w hS => (ex_load_blk 0 rfl pl_22 rfl hS rfl rfl)) ?_; clear hF a hcl hB; intro a hF hcl hB
    refine dr_fork (r := [3, 9]) hcl (by decide) (by kernel_rfl) ((fk_cons ?_ (fk_cons ?_ fk_nil)))
    ·
     refine fk_any hF 3 rfl (.free rfl) rfl rfl (ex_lit (n := 1) (len := 1) (pv := [(0, .int .i64 0)]) (cs := [.int .i64 0]) (c := ints (fun _ => 0)) rfl sl_22 el_3 hS (parts_cons rfl parts0) (by kernel_rfl) (by decide) (by decide) rfl rfl (fun k hk => by rcases k with _ | k <;> first | rfl | (exfalso; omega)) (by omega)) ?_; clear hF hB; rintro v1 w ⟨hS, hv1⟩ a hF hcl
     replace hS : Sat w0 w [.blk g1 [vc, vA, vb], .blk g2 [.int .i64 0, .int .i64 0, .slice none 0 0, .slice none 0 0, .slice none 0 0], .own v1 1 3 1 (ints (fun _ => 0))] := hS
     refine ⟨⟨(fun _ => hS.sub (.cons_cons _ (.cons_cons _ (.cons _ .slnil)))), hS.sub (.cons_cons _ (.cons_cons _ (.cons _ .slnil)))⟩, fun hB => ?_⟩
     refine dr_fork (r := [6, 9]) hcl (by decide) (by kernel_rfl) ((fk_cons ?_ (fk_cons ?_ fk_nil)))
     ·
      refine fk_any hF 6 rfl (.free rfl) rfl rfl (ap_own 2 (r := p.n + 1) (f := ints (cat 1 (fun _ => 0) p.c)) rfl sl_22 el_3 rfl (by decide) hS rfl rfl rfl (hL.c.below hS.below) (fun _ _ _ => rfl) (by omega) (by omega) (by omega) (by exact cat_ints1 _ _ _)) ?_; clear hF hB; rintro v2 w ⟨hS, hv2⟩ a hF hcl
      replace hS : Sat w0 w [.blk g1 [vc, vA, vb], .blk g2 [.int .i64 0, .int .i64 0, .slice none 0 0, .slice none 0 0, .slice none 0 0], .own v2 1 3 (p.n + 1) (ints (cat 1 (fun _ => 0) p.c))] := hS
      refine ⟨⟨(fun _ => hS.sub (.cons_cons _ (.cons_cons _ (.cons _ .slnil)))), hS.sub (.cons_cons _ (.cons_cons _ (.cons _ .slnil)))⟩, fun hB => ?_⟩
      refine dr_fork (r := [7, 9]) hcl (by decide) (by kernel_rfl) ((fk_cons ?_ (fk_cons ?_ fk_nil)))
      ·
       refine fk_any hF 7 rfl (.free rfl) rfl rfl (ex_lit (n := 1) (len := 1) (pv := [(0, v2)]) (cs := [v2]) (c := (fun _ => v2)) rfl sl_23 el_22 hS (parts_cons rfl parts0) (by obtain ⟨_, _, _, _, rfl, _⟩ := hv2; kernel_rfl) (by decide) (by decide) rfl rfl (fun k hk => by rcases k with _ | k <;> first | rfl | (exfalso; omega)) (by omega)) ?_; clear hF hB; rintro v3 w ⟨hS, hv3⟩ a hF hcl
       replace hS : Sat w0 w [.blk g1 [vc, vA, vb], .blk g2 [.int .i64 0, .int .i64 0, .slice none 0 0, .slice none 0 0, .slice none 0 0], .own v2 1 3 (p.n + 1) (ints (cat 1 (fun _ => 0) p.c)), .own v3 1 22 1 (fun _ => v2)] := hS
       refine ⟨⟨(fun _ => hS.sub (.cons_cons _ (.cons_cons _ (.cons _ (.cons _ .slnil))))), hS.sub (.cons_cons _ (.cons_cons _ (.cons _ (.cons _ .slnil))))⟩, fun hB => ?_⟩
       refine dr_val hF hcl hB 8 rfl (.free rfl) rfl rfl (by kernel_rfl) rfl (fun w => (ex_any (w' := w) (r := .value (.agg #[.int .i64 p.n, .int .i64 1, .slice none 0 0, .slice none 0 0, v3])) (by intro _ _ h; cases h) rfl (by obtain ⟨_, _, _, _, rfl, _⟩ := hv3; kernel_rfl))) ?_; clear hF a hcl hB; intro a hF hcl hB
       refine dr_any hF hcl 9 rfl (.free rfl) rfl rfl (by kernel_rfl) (ex_alloc (cs := [.int .i64 0, .int .i64 0, .slice none 0 0, .slice none 0 0, .slice none 0 0]) rfl el_43 hS rfl) ?_; clear hF hB; rintro _ w ⟨g3, rfl, hS⟩ a hF hcl
       replace hS : Sat w0 w [.blk g1 [vc, vA, vb], .blk g2 [.int .i64 0, .int .i64 0, .slice none 0 0, .slice none 0 0, .slice none 0 0], .own v2 1 3 (p.n + 1) (ints (cat 1 (fun _ => 0) p.c)), .own v3 1 22 1 (fun _ => v2), .blk g3 [.int .i64 0, .int .i64 0, .slice none 0 0, .slice none 0 0, .slice none 0 0]] := hS
       refine ⟨⟨(fun _ => hS.sub (.cons_cons _ (.cons_cons _ (.cons _ (.cons _ (.cons _ .slnil)))))), hS.sub (.cons_cons _ (.cons_cons _ (.cons _ (.cons _ (.cons _ .slnil)))))⟩, fun hB => ?_⟩
       refine dr_effx hF hcl 10 rfl (.free rfl) rfl (by kernel_rfl) (st_blks 4 (ds := [.int .i64 p.n, .int .i64 1, .slice none 0 0, .slice none 0 0, v3]) rfl st_43 hS rfl rfl rfl rfl (ones_cons rfl (ones_cons rfl (ones_cons rfl (ones_cons rfl (ones_cons hv3.one ones_nil)))))) ?_; clear hS hB; rintro w hS hcl
       replace hS : Sat w0 w [.blk g1 [vc, vA, vb], .blk g2 [.int .i64 0, .int .i64 0, .slice none 0 0, .slice none 0 0, .slice none 0 0], .own v2 1 3 (p.n + 1) (ints (cat 1 (fun _ => 0) p.c)), .own v3 1 22 1 (fun _ => v2), .blk g3 [.int .i64 p.n, .int .i64 1, .slice none 0 0, .slice none 0 0, v3]] := hS
       refine ⟨⟨(fun h => absurd h (by decide)), hS.sub (.cons_cons _ (.cons_cons _ (.cons _ (.cons _ (.cons _ .slnil)))))⟩, fun hB => ?_⟩
       refine dr_done (by kernel_rfl) ?_; clear hcl hB
       refine then_normal ?_
       exact ⟨g3, v1, v2, v3, hv2, hv3, (hF.pick (hF.pick (hF.pick (hF.pick (hF.pick (hF.pick (hF.pick (hF.pick (hF.pick (hF.pick (hF.pick (hF.pick (hF.pick (hF.pick (hF.pick (hF.pick (hF.pick hF.nil 4 rfl) 20 rfl) 19 rfl) 18 rfl) 15 rfl) 17 rfl) 16 rfl) 14 rfl) 13 rfl) 12 rfl) 10 rfl) 9 rfl) 8 rfl) 3 rfl) 2 rfl) 1 rfl) 0 rfl), hS⟩
      ·
       refine fk_any hF 9 rfl (.free rfl) rfl rfl (ex_alloc (cs := [.int .i64 0, .int .i64 0, .slice none 0 0, .slice none 0 0, .slice none 0 0]) rfl el_43 hS rfl) ?_; clear hF hB; rintro _ w ⟨g3, rfl, hS⟩ a hF hcl
       replace hS : Sat w0 w [.blk g1 [vc, vA, vb], .blk g2 [.int .i64 0, .int .i64 0, .slice none 0 0, .slice none 0 0, .slice none 0 0], .own v2 1 3 (p.n + 1) (ints (cat 1 (fun _ => 0) p.c)), .blk g3 [.int .i64 0, .int .i64 0, .slice none 0 0, .slice none 0 0, .slice none 0 0]] := hS
       refine ⟨⟨(fun _ => hS.sub (.cons_cons _ (.cons_cons _ (.cons _ (.cons _ .slnil))))), hS.sub (.cons_cons _ (.cons_cons _ (.cons _ (.cons _ .slnil))))⟩, fun hB => ?_⟩
       refine dr_any hF hcl 7 rfl (.free rfl) rfl rfl (by kernel_rfl) (ex_lit (n := 1) (len := 1) (pv := [(0, v2)]) (cs := [v2]) (c := (fun _ => v2)) rfl sl_23 el_22 hS (parts_cons rfl parts0) (by obtain ⟨_, _, _, _, rfl, _⟩ := hv2; kernel_rfl) (by decide) (by decide) rfl rfl (fun k hk => by rcases k with _ | k <;> first | rfl | (exfalso; omega)) (by omega)) ?_; clear hF hB; rintro v3 w ⟨hS, hv3⟩ a hF hcl
       replace hS : Sat w0 w [.blk g1 [vc, vA, vb], .blk g2 [.int .i64 0, .int .i64 0, .slice none 0 0, .slice none 0 0, .slice none 0 0], .own v2 1 3 (p.n + 1) (ints (cat 1 (fun _ => 0) p.c)), .blk g3 [.int .i64 0, .int .i64 0, .slice none 0 0, .slice none 0 0, .slice none 0 0], .own v3 1 22 1 (fun _ => v2)] := hS
       refine ⟨⟨(fun _ => hS.sub (.cons_cons _ (.cons_cons _ (.cons _ (.cons _ (.cons _ .slnil)))))), hS.sub (.cons_cons _ (.cons_cons _ (.cons _ (.cons _ (.cons _ .slnil)))))⟩, fun hB => ?_⟩
       refine dr_val hF hcl hB 8 rfl (.free rfl) rfl rfl (by kernel_rfl) rfl (fun w => (ex_any (w' := w) (r := .value (.agg #[.int .i64 p.n, .int .i64 1, .slice none 0 0, .slice none 0 0, v3])) (by intro _ _ h; cases h) rfl (by obtain ⟨_, _, _, _, rfl, _⟩ := hv3; kernel_rfl))) ?_; clear hF a hcl hB; intro a hF hcl hB
       refine dr_effx hF hcl 10 rfl (.free rfl) rfl (by kernel_rfl) (st_blks 3 (ds := [.int .i64 p.n, .int .i64 1, .slice none 0 0, .slice none 0 0, v3]) rfl st_43 hS rfl rfl rfl rfl (ones_cons rfl (ones_cons rfl (ones_cons rfl (ones_cons rfl (ones_cons hv3.one ones_nil)))))) ?_; clear hS hB; rintro w hS hcl
       replace hS : Sat w0 w [.blk g1 [vc, vA, vb], .blk g2 [.int .i64 0, .int .i64 0, .slice none 0 0, .slice none 0 0, .slice none 0 0], .own v2 1 3 (p.n + 1) (ints (cat 1 (fun _ => 0) p.c)), .blk g3 [.int .i64 p.n, .int .i64 1, .slice none 0 0, .slice none 0 0, v3], .own v3 1 22 1 (fun _ => v2)] := hS
       refine ⟨⟨(fun h => absurd h (by decide)), hS.sub (.cons_cons _ (.cons_cons _ (.cons _ (.cons _ (.cons _ .slnil)))))⟩, fun hB => ?_⟩
       refine dr_done (by kernel_rfl) ?_; clear hcl hB
       refine then_normal ?_
       exact ⟨g3, v1, v2, v3, hv2, hv3, (hF.pick (hF.pick (hF.pick (hF.pick (hF.pick (hF.pick (hF.pick (hF.pick (hF.pick (hF.pick (hF.pick (hF.pick (hF.pick (hF.pick (hF.pick (hF.pick (hF.pick hF.nil 4 rfl) 20 rfl) 19 rfl) 18 rfl) 15 rfl) 17 rfl) 16 rfl) 14 rfl) 13 rfl) 12 rfl) 10 rfl) 9 rfl) 8 rfl) 3 rfl) 2 rfl) 1 rfl) 0 rfl), hS.perm (List.Perm.cons _ (List.Perm.cons _ (List.Perm.cons _ (perm_step (l1 := [.blk g3 [.int .i64 p.n, .int .i64 1, .slice none 0 0, .slice none 0 0, v3]]) (l2 := []) (List.Perm.refl _)))))⟩
     ·
      refine fk_any hF 9 rfl (.free rfl) rfl rfl (ex_alloc (cs := [.int .i64 0, .int .i64 0, .slice none 0 0, .slice none 0 0, .slice none 0 0]) rfl el_43 hS rfl) ?_; clear hF hB; rintro _ w ⟨g3, rfl, hS⟩ a hF hcl
      replace hS : Sat w0 w [.blk g1 [vc, vA, vb], .blk g2 [.int .i64 0, .int .i64 0, .slice none 0 0, .slice none 0 0, .slice none 0 0], .own v1 1 3 1 (ints (fun _ => 0)), .blk g3 [.int .i64 0, .int .i64 0, .slice none 0 0, .slice none 0 0, .slice none 0 0]] := hS
      refine ⟨⟨(fun _ => hS.sub (.cons_cons _ (.cons_cons _ (.cons _ (.cons _ .slnil))))), hS.sub (.cons_cons _ (.cons_cons _ (.cons _ (.cons _ .slnil))))⟩, fun hB => ?_⟩
      refine dr_any hF hcl 6 rfl (.free rfl) rfl rfl (by kernel_rfl) (ap_own 2 (r := p.n + 1) (f := ints (cat 1 (fun _ => 0) p.c)) rfl sl_22 el_3 rfl (by decide) hS rfl rfl rfl (hL.c.below hS.below) (fun _ _ _ => rfl) (by omega) (by omega) (by omega) (by exact cat_ints1 _ _ _)) ?_; clear hF hB; rintro v2 w ⟨hS, hv2⟩ a hF hcl
      replace hS : Sat w0 w [.blk g1 [vc, vA, vb], .blk g2 [.int .i64 0, .int .i64 0, .slice none 0 0, .slice none 0 0, .slice none 0 0], .own v2 1 3 (p.n + 1) (ints (cat 1 (fun _ => 0) p.c)), .blk g3 [.int .i64 0, .int .i64 0, .slice none 0 0, .slice none 0 0, .slice none 0 0]] := hS
      refine ⟨⟨(fun _ => hS.sub (.cons_cons _ (.cons_cons _ (.cons _ (.cons _ .slnil))))), hS.sub (.cons_cons _ (.cons_cons _ (.cons _ (.cons _ .slnil))))⟩, fun hB => ?_⟩
      refine dr_any hF hcl 7 rfl (.free rfl) rfl rfl (by kernel_rfl) (ex_lit (n := 1) (len := 1) (pv := [(0, v2)]) (cs := [v2]) (c := (fun _ => v2)) rfl sl_23 el_22 hS (parts_cons rfl parts0) (by obtain ⟨_, _, _, _, rfl, _⟩ := hv2; kernel_rfl) (by decide) (by decide) rfl rfl (fun k hk => by rcases k with _ | k <;> first | rfl | (exfalso; omega)) (by omega)) ?_; clear hF hB; rintro v3 w ⟨hS, hv3⟩ a hF hcl
      replace hS : Sat w0 w [.blk g1 [vc, vA, vb], .blk g2 [.int .i64 0, .int .i64 0, .slice none 0 0, .slice none 0 0, .slice none 0 0], .own v2 1 3 (p.n + 1) (ints (cat 1 (fun _ => 0) p.c)), .blk g3 [.int .i64 0, .int .i64 0, .slice none 0 0, .slice none 0 0, .slice none 0 0], .own v3 1 22 1 (fun _ => v2)] := hS
      refine ⟨⟨(fun _ => hS.sub (.cons_cons _ (.cons_cons _ (.cons _ (.cons _ (.cons _ .slnil)))))), hS.sub (.cons_cons _ (.cons_cons _ (.cons _ (.cons _ (.cons _ .slnil)))))⟩, fun hB => ?_⟩
      refine dr_val hF hcl hB 8 rfl (.free rfl) rfl rfl (by kernel_rfl) rfl (fun w => (ex_any (w' := w) (r := .value (.agg #[.int .i64 p.n, .int .i64 1, .slice none 0 0, .slice none 0 0, v3])) (by intro _ _ h; cases h) rfl (by obtain ⟨_, _, _, _, rfl, _⟩ := hv3; kernel_rfl))) ?_; clear hF a hcl hB; intro a hF hcl hB
      refine dr_effx hF hcl 10 rfl (.free rfl) rfl (by kernel_rfl) (st_blks 3 (ds := [.int .i64 p.n, .int .i64 1, .slice none 0 0, .slice none 0 0, v3]) rfl st_43 hS rfl rfl rfl rfl (ones_cons rfl (ones_cons rfl (ones_cons rfl (ones_cons rfl (ones_cons hv3.one ones_nil)))))) ?_; clear hS hB; rintro w hS hcl
      replace hS : Sat w0 w [.blk g1 [vc, vA, vb], .blk g2 [.int .i64 0, .int .i64 0, .slice none 0 0, .slice none 0 0, .slice none 0 0], .own v2 1 3 (p.n + 1) (ints (cat 1 (fun _ => 0) p.c)), .blk g3 [.int .i64 p.n, .int .i64 1, .slice none 0 0, .slice none 0 0, v3], .own v3 1 22 1 (fun _ => v2)] := hS
      refine ⟨⟨(fun h => absurd h (by decide)), hS.sub (.cons_cons _ (.cons_cons _ (.cons _ (.cons _ (.cons _ .slnil)))))⟩, fun hB => ?_⟩
      refine dr_done (by kernel_rfl) ?_; clear hcl hB
      refine then_normal ?_
      exact ⟨g3, v1, v2, v3, hv2, hv3, (hF.pick (hF.pick (hF.pick (hF.pick (hF.pick (hF.pick (hF.pick (hF.pick (hF.pick (hF.pick (hF.pick (hF.pick (hF.pick (hF.pick (hF.pick (hF.pick (hF.pick hF.nil 4 rfl) 20 rfl) 19 rfl) 18 rfl) 15 rfl) 17 rfl) 16 rfl) 14 rfl) 13 rfl) 12 rfl) 10 rfl) 9 rfl) 8 rfl) 3 rfl) 2 rfl) 1 rfl) 0 rfl), hS.perm (List.Perm.cons _ (List.Perm.cons _ (List.Perm.cons _ (perm_step (l1 := [.blk g3 [.int .i64 p.n, .int .i64 1, .slice none 0 0, .slice none 0 0, v3]]) (l2 := []) (List.Perm.refl _)))))⟩
    ·
     refine fk_any hF 9 rfl (.free rfl) rfl rfl (ex_alloc (cs := [.int .i64 0, .int .i64 0, .slice none 0 0, .slice none 0 0, .slice none 0 0]) rfl el_43 hS rfl) ?_; clear hF hB; rintro _ w ⟨g3, rfl, hS⟩ a hF hcl
     replace hS : Sat w0 w [.blk g1 [vc, vA, vb], .blk g2 [.int .i64 0, .int .i64 0, .slice none 0 0, .slice none 0 0, .slice none 0 0], .blk g3 [.int .i64 0, .int .i64 0, .slice none 0 0, .slice none 0 0, .slice none 0 0]] := hS
     refine ⟨⟨(fun _ => hS.sub (.cons_cons _ (.cons_cons _ (.cons _ .slnil)))), hS.sub (.cons_cons _ (.cons_cons _ (.cons _ .slnil)))⟩, fun hB => ?_⟩
     refine dr_any hF hcl 3 rfl (.free rfl) rfl rfl (by kernel_rfl) (ex_lit (n := 1) (len := 1) (pv := [(0, .int .i64 0)]) (cs := [.int .i64 0]) (c := ints (fun _ => 0)) rfl sl_22 el_3 hS (parts_cons rfl parts0) (by kernel_rfl) (by decide) (by decide) rfl rfl (fun k hk => by rcases k with _ | k <;> first | rfl | (exfalso; omega)) (by omega)) ?_; clear hF hB; rintro v1 w ⟨hS, hv1⟩ a hF hcl
     replace hS : Sat w0 w [.blk g1 [vc, vA, vb], .blk g2 [.int .i64 0, .int .i64 0, .slice none 0 0, .slice none 0 0, .slice none 0 0], .blk g3 [.int .i64 0, .int .i64 0, .slice none 0 0, .slice none 0 0, .slice none 0 0], .own v1 1 3 1 (ints (fun _ => 0))] := hS
     refine ⟨⟨(fun _ => hS.sub (.cons_cons _ (.cons_cons _ (.cons _ (.cons _ .slnil))))), hS.sub (.cons_cons _ (.cons_cons _ (.cons _ (.cons _ .slnil))))⟩, fun hB => ?_⟩
     refine dr_any hF hcl 6 rfl (.free rfl) rfl rfl (by kernel_rfl) (ap_own 3 (r := p.n + 1) (f := ints (cat 1 (fun _ => 0) p.c)) rfl sl_22 el_3 rfl (by decide) hS rfl rfl rfl (hL.c.below hS.below) (fun _ _ _ => rfl) (by omega) (by omega) (by omega) (by exact cat_ints1 _ _ _)) ?_; clear hF hB; rintro v2 w ⟨hS, hv2⟩ a hF hcl
     replace hS : Sat w0 w [.blk g1 [vc, vA, vb], .blk g2 [.int .i64 0, .int .i64 0, .slice none 0 0, .slice none 0 0, .slice none 0 0], .blk g3 [.int .i64 0, .int .i64 0, .slice none 0 0, .slice none 0 0, .slice none 0 0], .own v2 1 3 (p.n + 1) (ints (cat 1 (fun _ => 0) p.c))] := hS
     refine ⟨⟨(fun _ => hS.sub (.cons_cons _ (.cons_cons _ (.cons _ (.cons _ .slnil))))), hS.sub (.cons_cons _ (.cons_cons _ (.cons _ (.cons _ .slnil))))⟩, fun hB => ?_⟩
     refine dr_any hF hcl 7 rfl (.free rfl) rfl rfl (by kernel_rfl) (ex_lit (n := 1) (len := 1) (pv := [(0, v2)]) (cs := [v2]) (c := (fun _ => v2)) rfl sl_23 el_22 hS (parts_cons rfl parts0) (by obtain ⟨_, _, _, _, rfl, _⟩ := hv2; kernel_rfl) (by decide) (by decide) rfl rfl (fun k hk => by rcases k with _ | k <;> first | rfl | (exfalso; omega)) (by omega)) ?_; clear hF hB; rintro v3 w ⟨hS, hv3⟩ a hF hcl
     replace hS : Sat w0 w [.blk g1 [vc, vA, vb], .blk g2 [.int .i64 0, .int .i64 0, .slice none 0 0, .slice none 0 0, .slice none 0 0], .blk g3 [.int .i64 0, .int .i64 0, .slice none 0 0, .slice none 0 0, .slice none 0 0], .own v2 1 3 (p.n + 1) (ints (cat 1 (fun _ => 0) p.c)), .own v3 1 22 1 (fun _ => v2)] := hS
     refine ⟨⟨(fun _ => hS.sub (.cons_cons _ (.cons_cons _ (.cons _ (.cons _ (.cons _ .slnil)))))), hS.sub (.cons_cons _ (.cons_cons _ (.cons _ (.cons _ (.cons _ .slnil)))))⟩, fun hB => ?_⟩
     refine dr_val hF hcl hB 8 rfl (.free rfl) rfl rfl (by kernel_rfl) rfl (fun w => (ex_any (w' := w) (r := .value (.agg #[.int .i64 p.n, .int .i64 1, .slice none 0 0, .slice none 0 0, v3])) (by intro _ _ h; cases h) rfl (by obtain ⟨_, _, _, _, rfl, _⟩ := hv3; kernel_rfl))) ?_; clear hF a hcl hB; intro a hF hcl hB
     refine dr_effx hF hcl 10 rfl (.free rfl) rfl (by kernel_rfl) (st_blks 2 (ds := [.int .i64 p.n, .int .i64 1, .slice none 0 0, .slice none 0 0, v3]) rfl st_43 hS rfl rfl rfl rfl (ones_cons rfl (ones_cons rfl (ones_cons rfl (ones_cons rfl (ones_cons hv3.one ones_nil)))))) ?_; clear hS hB; rintro w hS hcl
     replace hS : Sat w0 w [.blk g1 [vc, vA, vb], .blk g2 [.int .i64 0, .int .i64 0, .slice none 0 0, .slice none 0 0, .slice none 0 0], .blk g3 [.int .i64 p.n, .int .i64 1, .slice none 0 0, .slice none 0 0, v3], .own v2 1 3 (p.n + 1) (ints (cat 1 (fun _ => 0) p.c)), .own v3 1 22 1 (fun _ => v2)] := hS
     refine ⟨⟨(fun h => absurd h (by decide)), hS.sub (.cons_cons _ (.cons_cons _ (.cons _ (.cons _ (.cons _ .slnil)))))⟩, fun hB => ?_⟩
     refine dr_done (by kernel_rfl) ?_; clear hcl hB
     refine then_normal ?_
     exact ⟨g3, v1, v2, v3, hv2, hv3, (hF.pick (hF.pick (hF.pick (hF.pick (hF.pick (hF.pick (hF.pick (hF.pick (hF.pick (hF.pick (hF.pick (hF.pick (hF.pick (hF.pick (hF.pick (hF.pick (hF.pick hF.nil 4 rfl) 20 rfl) 19 rfl) 18 rfl) 15 rfl) 17 rfl) 16 rfl) 14 rfl) 13 rfl) 12 rfl) 10 rfl) 9 rfl) 8 rfl) 3 rfl) 2 rfl) 1 rfl) 0 rfl), hS.perm (List.Perm.cons _ (List.Perm.cons _ (perm_step (l1 := [.blk g3 [.int .i64 p.n, .int .i64 1, .slice none 0 0, .slice none 0 0, v3]]) (l2 := [.own v3 1 22 1 (fun _ => v2)]) (perm_step (l1 := [.blk g3 [.int .i64 p.n, .int .i64 1, .slice none 0 0, .slice none 0 0, v3]]) (l2 := []) (List.Perm.refl _)))))⟩
   ·
    clear hF hS a w; rintro a w ⟨g3, v1, v2, v3, hv2, hv3, hF, hS⟩
    refine then_normal ?_
    refine cw_seq ?_
    refine cw_seq ?_
    refine wp_region_lit ?_
    refine ls_val hF (.free rfl) rfl rfl (ex_field (b := ⟨g1, 0, none⟩) rfl fd_34_0 rfl rfl) ?_; clear hF a; intro a hF
    refine ls_val hF (.free rfl) rfl rfl (ex_load_blk 0 rfl pl_22 rfl hS rfl rfl) ?_; clear hF a; intro a hF
    refine ls_val hF (.free rfl) rfl rfl (ex_len rfl sl_22 rfl hL.c.slh) ?_; clear hF a; intro a hF
    have hl := (Classical.not_not.1 ‹¬ ¬ (LOk p)›)
    have b1 := hl.n1
    have b2 := hl.n2
    have b3 := hl.m2
    have b4 := hl.k
    refine ls_val hF (.free rfl) rfl rfl (ex_move rfl rfl) ?_; clear hF a; intro a hF
    refine ls_nil ?_
    refine then_normal ?_
    refine wp_block ?_
    replace hS := hS.addrows 3 (fun _ => Value.slice none 0 0) (fun _ => 0) (fun _ _ => 0)
    replace hS : Sat w0 w [.blk g1 [vc, vA, vb], .blk g2 [.int .i64 0, .int .i64 0, .slice none 0 0, .slice none 0 0, .slice none 0 0], .own v2 1 3 (p.n + 1) (ints (cat 1 (fun _ => 0) p.c)), .own v3 1 22 1 (fun _ => v2), .blk g3 [.int .i64 p.n, .int .i64 1, .slice none 0 0, .slice none 0 0, v3], .sem (Frame.rows 3 0 (fun _ => Value.slice none 0 0) (fun _ => 0) (fun _ _ => 0))] := hS
    replace hS := Sat.merge2 (l1 := [.blk g1 [vc, vA, vb], .blk g2 [.int .i64 0, .int .i64 0, .slice none 0 0, .slice none 0 0, .slice none 0 0]]) (l2 := [.own v3 1 22 1 (fun _ => v2), .blk g3 [.int .i64 p.n, .int .i64 1, .slice none 0 0, .slice none 0 0, v3]]) (l3 := []) hS (by omega)
    replace hS := hS.rerows (vv' := (fun _ => v2)) (ln' := (startT p).ln) (f' := (startT p).C) 4 rfl (fun k k0 k1 => by
      obtain rfl : k = 0 := by omega
      refine ⟨gsn_self _ _ _, ?_, fun j j0 j1 => ?_⟩
      · rw [gsn_self]; show _ = p.n + 1; omega
      · rw [gsn_self]; unfold startT cat; dsimp only; (repeat' split) <;> first | rfl | omega)
    replace hS : Sat w0 w [.blk g1 [vc, vA, vb], .blk g2 [.int .i64 0, .int .i64 0, .slice none 0 0, .slice none 0 0, .slice none 0 0], .own v3 1 22 1 (fun _ => v2), .blk g3 [.int .i64 p.n, .int .i64 1, .slice none 0 0, .slice none 0 0, v3], .sem (Frame.rows 3 1 (fun _ => v2) ((startT p).ln) ((startT p).C))] := hS
    have hrs0 := fun k (k0 : 0 ≤ k) (k1 : k < 1) => hS.slhIn 4 rfl k0 k1
    replace hS := hS.addnil 1 3 (ints (fun _ => 0))
    replace hS : Sat w0 w [.blk g1 [vc, vA, vb], .blk g2 [.int .i64 0, .int .i64 0, .slice none 0 0, .slice none 0 0, .slice none 0 0], .own v3 1 22 1 (fun _ => v2), .blk g3 [.int .i64 p.n, .int .i64 1, .slice none 0 0, (.slice none 0 0), v3], .sem (Frame.rows 3 1 (fun _ => v2) ((startT p).ln) ((startT p).C)), .own (.slice none 0 0) 1 3 0 (ints (fun _ => 0))] := hS
    replace hS := hS.addnil 1 3 (ints (fun _ => 0))
    replace hS : Sat w0 w [.blk g1 [vc, vA, vb], .blk g2 [.int .i64 0, .int .i64 0, .slice none 0 0, .slice none 0 0, .slice none 0 0], .own v3 1 22 1 (fun _ => v2), .blk g3 [.int .i64 p.n, .int .i64 1, (.slice none 0 0), (.slice none 0 0), v3], .sem (Frame.rows 3 1 (fun _ => v2) ((startT p).ln) ((startT p).C)), .own (.slice none 0 0) 1 3 0 (ints (fun _ => 0)), .own (.slice none 0 0) 1 3 0 (ints (fun _ => 0))] := hS
    refine cw_loop (fun mm a w => ∃ (nF : Int) (j : Int) (wF : Value) (fF : Int → Int), mm = ((p.n - j).toNat) ∧ (0 ≤ j) ∧ (j ≤ p.n) ∧ (nF = j) ∧ (∀ k, 0 ≤ k → k < j → fF k = k) ∧ (Slh wF nF) ∧ Fr a 67 [(1, .pointer (some ⟨g1, 0, none⟩)), (2, .pointer (some ⟨g2, 0, none⟩)), (3, .int .i64 0), (4, .pointer (some ⟨g3, 0, none⟩)), (23, .int .i64 p.n), (24, .int .i64 j)] ∧ Sat w0 w [.blk g1 [vc, vA, vb], .blk g2 [.int .i64 0, .int .i64 0, .slice none 0 0, .slice none 0 0, .slice none 0 0], .own v3 1 22 1 (fun _ => v2), .blk g3 [.int .i64 p.n, .int .i64 1, (.slice none 0 0), wF, v3], .sem (Frame.rows 3 1 (fun _ => v2) ((startT p).ln) ((startT p).C)), .own wF 1 3 nF (ints fF), .own (.slice none 0 0) 1 3 0 (ints (fun _ => 0))]) ?_ ?_ (m := ((p.n - 0).toNat))
    ·
     refine ⟨0, 0, (.slice none 0 0), (fun _ => 0), rfl, (by omega), (by omega), (by omega), ?_, ?_, (hF.pick (hF.pick (hF.pick (hF.pick (hF.pick (hF.pick hF.nil 24 rfl) 23 rfl) 4 rfl) 3 rfl) 2 rfl) 1 rfl), hS⟩
     ·
      intro k k0 k1; omega
     ·
      exact slh_nil
    ·
     clear hF hS a w
     rintro mm a w ⟨nF, j, wF, fF, rfl, j0, j1, hnF, hfF, hwF, hF, hS⟩
     refine cw_seq ?_
     refine wp_region_lit ?_
     refine ls_val hF (.free rfl) rfl rfl (ex_lss rfl rfl rfl) ?_; clear hF a; intro a hF
     refine ls_nil ?_
     refine then_normal ?_
     refine cw_seq ?_
     refine cw_if hF rfl (fun hc => ?_) (fun hc => ?_)
     ·
      refine wp_skip ?_
      refine then_normal ?_
      refine cw_seq ?_
      refine wp_block ?_
      refine cw_seq ?_
      refine wp_region_lit ?_
      refine ls_val hF (.free rfl) rfl rfl (ex_move rfl rfl) ?_; clear hF a; intro a hF
      refine ls_val hF (.free rfl) rfl rfl (ex_assign rfl rfl) ?_; clear hF a; intro a hF
      refine ls_nil ?_
      refine then_normal ?_
      refine wp_region_lit ?_
      refine ls_val hF (.free rfl) rfl rfl (ex_field (b := ⟨g3, 3, none⟩) rfl fd_43_3 rfl rfl) ?_; clear hF a; intro a hF
      refine ls_val hF (.free rfl) rfl rfl (ex_load_blk 3 rfl pl_22 rfl hS rfl rfl) ?_; clear hF a; intro a hF
      refine ls_val hF (.free rfl) rfl rfl (ex_move rfl rfl) ?_; clear hF a; intro a hF
      refine ls_any hF (.free rfl) rfl rfl (ex_lit (n := 1) (len := 1) (pv := [(0, .int .i64 j)]) (cs := [.int .i64 j]) (c := ints (fun _ => j)) rfl sl_22 el_3 hS (parts_cons rfl parts0) (by kernel_rfl) (by decide) (by decide) rfl rfl (fun k hk => by rcases k with _ | k <;> first | rfl | (exfalso; omega)) (by omega)) ?_; clear hF; rintro v4 w ⟨hS, hv4⟩ a hF
      replace hS : Sat w0 w [.blk g1 [vc, vA, vb], .blk g2 [.int .i64 0, .int .i64 0, .slice none 0 0, .slice none 0 0, .slice none 0 0], .own v3 1 22 1 (fun _ => v2), .blk g3 [.int .i64 p.n, .int .i64 1, (.slice none 0 0), wF, v3], .sem (Frame.rows 3 1 (fun _ => v2) ((startT p).ln) ((startT p).C)), .own wF 1 3 nF (ints fF), .own (.slice none 0 0) 1 3 0 (ints (fun _ => 0)), .own v4 1 3 1 (ints (fun _ => j))] := hS
      refine ls_any hF (.free rfl) rfl rfl (ap_own 5 (r := nF + 1) (f := ints (snoc fF nF j)) rfl sl_22 el_3 rfl (by decide) hS rfl rfl rfl (hS.rowN 7 rfl) (fun _ _ _ => rfl) (by omega) (by omega) (by omega) (cat_snoc _ _ _)) ?_; clear hF; rintro v5 w ⟨hS, hv5⟩ a hF
      replace hS : Sat w0 w [.blk g1 [vc, vA, vb], .blk g2 [.int .i64 0, .int .i64 0, .slice none 0 0, .slice none 0 0, .slice none 0 0], .own v3 1 22 1 (fun _ => v2), .blk g3 [.int .i64 p.n, .int .i64 1, (.slice none 0 0), wF, v3], .sem (Frame.rows 3 1 (fun _ => v2) ((startT p).ln) ((startT p).C)), .own v5 1 3 (nF + 1) (ints (snoc fF nF j)), .own (.slice none 0 0) 1 3 0 (ints (fun _ => 0)), .own v4 1 3 1 (ints (fun _ => j))] := hS
      refine ls_val hF (.free rfl) rfl rfl (ex_field (b := ⟨g3, 3, none⟩) rfl fd_43_3 rfl rfl) ?_; clear hF a; intro a hF
      refine ls_effx hF (.free rfl) rfl (st_blk 3 rfl pl_22 hS rfl rfl rfl hv5.one rfl) ?_; clear hS; rintro w hS
      replace hS : Sat w0 w [.blk g1 [vc, vA, vb], .blk g2 [.int .i64 0, .int .i64 0, .slice none 0 0, .slice none 0 0, .slice none 0 0], .own v3 1 22 1 (fun _ => v2), .blk g3 [.int .i64 p.n, .int .i64 1, (.slice none 0 0), v5, v3], .sem (Frame.rows 3 1 (fun _ => v2) ((startT p).ln) ((startT p).C)), .own v5 1 3 (nF + 1) (ints (snoc fF nF j)), .own (.slice none 0 0) 1 3 0 (ints (fun _ => 0)), .own v4 1 3 1 (ints (fun _ => j))] := hS
      refine ls_nil ?_
      refine inb_normal ?_
      refine then_normal ?_
      refine wp_region_lit ?_
      refine ls_val hF (.free rfl) rfl rfl (ex_add (r := j + 1) rfl rfl rfl (by omega) (by unfold I64; omega)) ?_; clear hF a; intro a hF
      refine ls_val hF (.free rfl) rfl rfl (ex_move rfl rfl) ?_; clear hF a; intro a hF
      refine ls_nil ?_
      refine then_normal ?_
      refine ⟨_, (by omega), nF + 1, j + 1, v5, (snoc fF nF j), rfl, (by omega), (by omega), (by omega), ?_, ?_, (hF.pick (hF.pick (hF.pick (hF.pick (hF.pick (hF.pick hF.nil 24 rfl) 23 rfl) 4 rfl) 3 rfl) 2 rfl) 1 rfl), hS.sub (.cons_cons _ (.cons_cons _ (.cons_cons _ (.cons_cons _ (.cons_cons _ (.cons_cons _ (.cons_cons _ (.cons _ .slnil))))))))⟩
      ·
       intro k k0 k1; by_cases e : k < nF
       · rw [snoc_lt e]; exact hfF k k0 (by omega)
       · rw [snoc_at e]; omega
      ·
       exact hv5
     ·
      refine wp_exit ?_
      refine then_exit ?_
      refine then_exit ?_
      refine inb_hit ?_
      refine then_normal ?_
      refine cw_seq ?_
      refine cw_seq ?_
      refine wp_region_lit ?_
      refine ls_val hF (.free rfl) rfl rfl (ex_field (b := ⟨g1, 1, none⟩) rfl fd_34_1 rfl rfl) ?_; clear hF a; intro a hF
      refine ls_val hF (.free rfl) rfl rfl (ex_load_blk 0 rfl pl_23 rfl hS rfl rfl) ?_; clear hF a; intro a hF
      refine ls_val hF (.free rfl) rfl rfl (ex_len rfl sl_23 rfl hL.A.row.slh) ?_; clear hF a; intro a hF
      refine ls_val hF (.free rfl) rfl rfl (ex_move rfl rfl) ?_; clear hF a; intro a hF
      refine ls_nil ?_
      refine then_normal ?_
      refine wp_block ?_
      refine cw_loop (fun mm a w => ∃ (mB : Int) (nC : Int) (wv : Int → Value) (i : Int) (wB : Value) (fB : Int → Int) (wC : Value), mm = ((p.m - i).toNat) ∧ (0 ≤ i) ∧ (i ≤ p.m) ∧ (mB = i) ∧ (nC = i + 1) ∧ (∀ k, 0 ≤ k → k < i → fB k = p.n + k) ∧ (Slh wB mB) ∧ (Slh wC nC) ∧ Fr a 67 [(1, .pointer (some ⟨g1, 0, none⟩)), (2, .pointer (some ⟨g2, 0, none⟩)), (3, .int .i64 0), (4, .pointer (some ⟨g3, 0, none⟩)), (35, vA), (36, .int .i64 p.m), (37, .int .i64 i)] ∧ Sat w0 w [.blk g1 [vc, vA, vb], .blk g2 [.int .i64 0, .int .i64 0, .slice none 0 0, .slice none 0 0, .slice none 0 0], .own wC 1 22 nC wv, .blk g3 [.int .i64 p.n, .int .i64 1, wB, wF, wC], .sem (Frame.rows 3 nC wv ((startT p).ln) ((startT p).C)), .own wF 1 3 nF (ints fF), .own wB 1 3 mB (ints fB)]) ?_ ?_ (m := ((p.m - 0).toNat))
      ·
       refine ⟨0, 1, (fun _ => v2), 0, (.slice none 0 0), (fun _ => 0), v3, rfl, (by omega), (by omega), (by omega), (by omega), ?_, ?_, ?_, (hF.pick (hF.pick (hF.pick (hF.pick (hF.pick (hF.pick (hF.pick hF.nil 37 rfl) 36 rfl) 35 rfl) 4 rfl) 3 rfl) 2 rfl) 1 rfl), hS⟩
       ·
        intro k k0 k1; omega
       ·
        exact slh_nil
       ·
        exact hv3
      ·
       clear hF hS a w
       rintro mm a w ⟨mB, nC, wv, i, wB, fB, wC, rfl, i0, i1, hmB, hnC, hfB, hwB, hwC, hF, hS⟩
       have hrs1 := fun k (k0 : 0 ≤ k) (k1 : k < nC) => hS.slhIn 4 rfl k0 k1
       refine cw_seq ?_
       refine wp_region_lit ?_
       refine ls_val hF (.free rfl) rfl rfl (ex_lss rfl rfl rfl) ?_; clear hF a; intro a hF
       refine ls_nil ?_
       refine then_normal ?_
       refine cw_seq ?_
       refine cw_if hF rfl (fun hc => ?_) (fun hc => ?_)
       ·
        refine wp_skip ?_
        refine then_normal ?_
        refine cw_seq ?_
        refine wp_block ?_
        refine cw_seq ?_
        refine wp_region_lit ?_
        refine ls_val hF (.free rfl) rfl rfl (ex_move rfl rfl) ?_; clear hF a; intro a hF
        refine ls_val hF (.free rfl) rfl rfl (ex_index (k := i) rfl sl_23 rfl rfl hL.A.row.slh (by omega) (by omega) (by omega)) ?_; clear hF a; intro a hF
        refine ls_val hF (.free rfl) rfl rfl (ex_load_row (u := (vq i)) rfl pl_22 rfl (hL.A.row.below hS.below) (by omega) (by omega) rfl) ?_; clear hF a; intro a hF
        have hri := hl.rows i i0 (by omega)
        refine ls_val hF (.free rfl) rfl rfl (ex_assign rfl rfl) ?_; clear hF a; intro a hF
        refine ls_val hF (.free rfl) rfl rfl (ex_assign rfl rfl) ?_; clear hF a; intro a hF
        refine ls_nil ?_
        refine then_normal ?_
        refine cw_seq ?_
        refine wp_region_lit ?_
        refine ls_val hF (.free rfl) rfl rfl (ex_field (b := ⟨g3, 2, none⟩) rfl fd_43_2 rfl rfl) ?_; clear hF a; intro a hF
        refine ls_val hF (.free rfl) rfl rfl (ex_load_blk 3 rfl pl_22 rfl hS rfl rfl) ?_; clear hF a; intro a hF
        refine ls_val hF (.free rfl) rfl rfl (ex_field (b := ⟨g3, 0, none⟩) rfl fd_43_0 rfl rfl) ?_; clear hF a; intro a hF
        refine ls_val hF (.free rfl) rfl rfl (ex_load_blk 3 rfl pl_3 rfl hS rfl rfl) ?_; clear hF a; intro a hF
        refine ls_val hF (.free rfl) rfl rfl (ex_move rfl rfl) ?_; clear hF a; intro a hF
        refine ls_val hF (.free rfl) rfl rfl (ex_add (r := p.n + i) rfl rfl rfl (by omega) (by unfold I64; omega)) ?_; clear hF a; intro a hF
        refine ls_any hF (.free rfl) rfl rfl (ex_lit (n := 1) (len := 1) (pv := [(0, .int .i64 (p.n + i))]) (cs := [.int .i64 (p.n + i)]) (c := ints (fun _ => p.n + i)) rfl sl_22 el_3 hS (parts_cons rfl parts0) (by kernel_rfl) (by decide) (by decide) rfl rfl (fun k hk => by rcases k with _ | k <;> first | rfl | (exfalso; omega)) (by omega)) ?_; clear hF; rintro v6 w ⟨hS, hv6⟩ a hF
        replace hS : Sat w0 w [.blk g1 [vc, vA, vb], .blk g2 [.int .i64 0, .int .i64 0, .slice none 0 0, .slice none 0 0, .slice none 0 0], .own wC 1 22 nC wv, .blk g3 [.int .i64 p.n, .int .i64 1, wB, wF, wC], .sem (Frame.rows 3 nC wv ((startT p).ln) ((startT p).C)), .own wF 1 3 nF (ints fF), .own wB 1 3 mB (ints fB), .own v6 1 3 1 (ints (fun _ => p.n + i))] := hS
        refine ls_any hF (.free rfl) rfl rfl (ap_own 6 (r := mB + 1) (f := ints (snoc fB mB (p.n + i))) rfl sl_22 el_3 rfl (by decide) hS rfl rfl rfl (hS.rowN 7 rfl) (fun _ _ _ => rfl) (by omega) (by omega) (by omega) (cat_snoc _ _ _)) ?_; clear hF; rintro v7 w ⟨hS, hv7⟩ a hF
        replace hS : Sat w0 w [.blk g1 [vc, vA, vb], .blk g2 [.int .i64 0, .int .i64 0, .slice none 0 0, .slice none 0 0, .slice none 0 0], .own wC 1 22 nC wv, .blk g3 [.int .i64 p.n, .int .i64 1, wB, wF, wC], .sem (Frame.rows 3 nC wv ((startT p).ln) ((startT p).C)), .own wF 1 3 nF (ints fF), .own v7 1 3 (mB + 1) (ints (snoc fB mB (p.n + i))), .own v6 1 3 1 (ints (fun _ => p.n + i))] := hS
        refine ls_val hF (.free rfl) rfl rfl (ex_field (b := ⟨g3, 2, none⟩) rfl fd_43_2 rfl rfl) ?_; clear hF a; intro a hF
        refine ls_effx hF (.free rfl) rfl (st_blk 3 rfl pl_22 hS rfl rfl rfl hv7.one rfl) ?_; clear hS; rintro w hS
        replace hS : Sat w0 w [.blk g1 [vc, vA, vb], .blk g2 [.int .i64 0, .int .i64 0, .slice none 0 0, .slice none 0 0, .slice none 0 0], .own wC 1 22 nC wv, .blk g3 [.int .i64 p.n, .int .i64 1, v7, wF, wC], .sem (Frame.rows 3 nC wv ((startT p).ln) ((startT p).C)), .own wF 1 3 nF (ints fF), .own v7 1 3 (mB + 1) (ints (snoc fB mB (p.n + i))), .own v6 1 3 1 (ints (fun _ => p.n + i))] := hS
        refine ls_nil ?_
        refine then_normal ?_
        refine dr_sat (m0 := [.blk g1 [vc, vA, vb], .blk g2 [.int .i64 0, .int .i64 0, .slice none 0 0, .slice none 0 0, .slice none 0 0], .blk g3 [.int .i64 p.n, .int .i64 1, v7, wF, wC]]) (m1 := [.blk g1 [vc, vA, vb], .blk g2 [.int .i64 0, .int .i64 0, .slice none 0 0, .slice none 0 0, .slice none 0 0]]) 14 mx_ hS (.cons_cons _ (.cons_cons _ (.cons _ (.cons_cons _ (.cons _ (.cons _ (.cons _ (.cons _ .slnil)))))))) (.cons_cons _ (.cons_cons _ (.cons _ (.cons _ (.cons _ (.cons _ (.cons _ (.cons _ .slnil)))))))) rfl ?_; clear hS; intro w hS hcl hB
        refine dr_val hF hcl hB 0 rfl (.free rfl) rfl rfl (by kernel_rfl) rfl (fun w => (ex_field (b := ⟨g3, 4, none⟩) rfl fd_43_4 rfl rfl)) ?_; clear hF a hcl hB; intro a hF hcl hB
        refine dr_load hF hcl hB 1 rfl (.free rfl) rfl rfl (by kernel_rfl) rfl (by kernel_rfl) (fun w hS => (ex_load_blk 2 rfl pl_23 rfl hS rfl rfl)) ?_; clear hF a hcl hB; intro a hF hcl hB
        refine dr_val hF hcl hB 2 rfl (.free rfl) rfl rfl (by kernel_rfl) rfl (fun w => (ex_field (b := ⟨g1, 2, none⟩) rfl fd_34_2 rfl rfl)) ?_; clear hF a hcl hB; intro a hF hcl hB
        refine dr_loadA hF hcl hB 3 rfl (.free rfl) rfl rfl (by kernel_rfl) rfl (fun w hS => (ex_load_blk 0 rfl pl_22 rfl hS rfl rfl)) ?_; clear hF a hcl hB; intro a hF hcl hB
        refine dr_val hF hcl hB 4 rfl (.free rfl) rfl rfl (by kernel_rfl) rfl (fun w => (ex_move rfl rfl)) ?_; clear hF a hcl hB; intro a hF hcl hB
        refine dr_val hF hcl hB 5 rfl (.free rfl) rfl rfl (by kernel_rfl) rfl (fun w => (ex_index (k := i) rfl sl_22 rfl rfl hL.b.slh (by omega) (by omega) (by omega))) ?_; clear hF a hcl hB; intro a hF hcl hB
        refine dr_loadA hF hcl hB 6 rfl (.free rfl) rfl rfl (by kernel_rfl) rfl (fun w hS => (ex_load_row (u := .int .i64 (p.b i)) rfl pl_3 rfl (hL.b.below hS.below) (by omega) (by omega) rfl)) ?_; clear hF a hcl hB; intro a hF hcl hB
        have hbi := hl.b i i0 (by omega)
        refine dr_val hF hcl hB 7 rfl (.free rfl) rfl rfl (by kernel_rfl) rfl (fun w => (ex_neg (r := -((p.b i))) rfl rfl (by omega) (by unfold I64; omega))) ?_; clear hF a hcl hB; intro a hF hcl hB
        refine dr_val hF hcl hB 9 rfl (.free rfl) rfl rfl (by kernel_rfl) rfl (fun w => (ex_move rfl rfl)) ?_; clear hF a hcl hB; intro a hF hcl hB
        refine dr_any hF hcl 8 rfl (.free rfl) rfl rfl (by kernel_rfl) (ex_lit (n := 1) (len := 1) (pv := [(0, .int .i64 (-((p.b i))))]) (cs := [.int .i64 (-((p.b i)))]) (c := ints (fun _ => -((p.b i)))) rfl sl_22 el_3 hS (parts_cons rfl parts0) (by kernel_rfl) (by decide) (by decide) rfl rfl (fun k hk => by rcases k with _ | k <;> first | rfl | (exfalso; omega)) (by omega)) ?_; clear hF hB; rintro v8 w ⟨hS, hv8⟩ a hF hcl
        replace hS : Sat w0 w [.blk g1 [vc, vA, vb], .blk g2 [.int .i64 0, .int .i64 0, .slice none 0 0, .slice none 0 0, .slice none 0 0], .own wC 1 22 nC wv, .blk g3 [.int .i64 p.n, .int .i64 1, v7, wF, wC], .sem (Frame.rows 3 nC wv ((startT p).ln) ((startT p).C)), .own wF 1 3 nF (ints fF), .own v7 1 3 (mB + 1) (ints (snoc fB mB (p.n + i))), .own v6 1 3 1 (ints (fun _ => p.n + i)), .own v8 1 3 1 (ints (fun _ => -((p.b i))))] := hS
        refine ⟨⟨(fun _ => hS.sub (.cons_cons _ (.cons_cons _ (.cons _ (.cons_cons _ (.cons _ (.cons _ (.cons _ (.cons _ (.cons _ .slnil)))))))))), hS.sub (.cons_cons _ (.cons_cons _ (.cons _ (.cons _ (.cons _ (.cons _ (.cons _ (.cons _ (.cons _ .slnil)))))))))⟩, fun hB => ?_⟩
        refine dr_any hF hcl 10 rfl (.free rfl) rfl rfl (by kernel_rfl) (ap_own 8 (r := (p.ln i) + 1) (f := ints (cat 1 (fun _ => -(p.b i)) (p.A i))) rfl sl_22 el_3 rfl (by decide) hS rfl rfl rfl ((hL.A.p i (by omega) (by omega)).below hS.below) (fun _ _ _ => rfl) (by omega) (by omega) (by omega) (by exact cat_ints1 _ _ _)) ?_; clear hF hB; rintro v9 w ⟨hS, hv9⟩ a hF hcl
        replace hS : Sat w0 w [.blk g1 [vc, vA, vb], .blk g2 [.int .i64 0, .int .i64 0, .slice none 0 0, .slice none 0 0, .slice none 0 0], .own wC 1 22 nC wv, .blk g3 [.int .i64 p.n, .int .i64 1, v7, wF, wC], .sem (Frame.rows 3 nC wv ((startT p).ln) ((startT p).C)), .own wF 1 3 nF (ints fF), .own v7 1 3 (mB + 1) (ints (snoc fB mB (p.n + i))), .own v6 1 3 1 (ints (fun _ => p.n + i)), .own v9 1 3 ((p.ln i) + 1) (ints (cat 1 (fun _ => -(p.b i)) (p.A i)))] := hS
        refine ⟨⟨(fun _ => hS.sub (.cons_cons _ (.cons_cons _ (.cons _ (.cons_cons _ (.cons _ (.cons _ (.cons _ (.cons _ (.cons _ .slnil)))))))))), hS.sub (.cons_cons _ (.cons_cons _ (.cons _ (.cons _ (.cons _ (.cons _ (.cons _ (.cons _ (.cons _ .slnil)))))))))⟩, fun hB => ?_⟩
        refine dr_any hF hcl 11 rfl (.free rfl) rfl rfl (by kernel_rfl) (ex_lit (n := 1) (len := 1) (pv := [(0, v9)]) (cs := [v9]) (c := (fun _ => v9)) rfl sl_23 el_22 hS (parts_cons rfl parts0) (by obtain ⟨_, _, _, _, rfl, _⟩ := hv9; kernel_rfl) (by decide) (by decide) rfl rfl (fun k hk => by rcases k with _ | k <;> first | rfl | (exfalso; omega)) (by omega)) ?_; clear hF hB; rintro v10 w ⟨hS, hv10⟩ a hF hcl
        replace hS : Sat w0 w [.blk g1 [vc, vA, vb], .blk g2 [.int .i64 0, .int .i64 0, .slice none 0 0, .slice none 0 0, .slice none 0 0], .own wC 1 22 nC wv, .blk g3 [.int .i64 p.n, .int .i64 1, v7, wF, wC], .sem (Frame.rows 3 nC wv ((startT p).ln) ((startT p).C)), .own wF 1 3 nF (ints fF), .own v7 1 3 (mB + 1) (ints (snoc fB mB (p.n + i))), .own v6 1 3 1 (ints (fun _ => p.n + i)), .own v9 1 3 ((p.ln i) + 1) (ints (cat 1 (fun _ => -(p.b i)) (p.A i))), .own v10 1 22 1 (fun _ => v9)] := hS
        refine ⟨⟨(fun _ => hS.sub (.cons_cons _ (.cons_cons _ (.cons _ (.cons_cons _ (.cons _ (.cons _ (.cons _ (.cons _ (.cons _ (.cons _ .slnil))))))))))), hS.sub (.cons_cons _ (.cons_cons _ (.cons _ (.cons _ (.cons _ (.cons _ (.cons _ (.cons _ (.cons _ (.cons _ .slnil))))))))))⟩, fun hB => ?_⟩
        refine dr_any hF hcl 12 rfl (.free rfl) rfl rfl (by kernel_rfl) (ap_own 2 (r := nC + 1) (f := gsn wv nC v9) rfl sl_23 el_22 rfl (by decide) hS rfl rfl rfl (hS.rowN 9 rfl) (fun _ _ _ => hv9.one) (by omega) (by omega) (by omega) (cat_gsn _ _ _)) ?_; clear hF hB; rintro v11 w ⟨hS, hv11⟩ a hF hcl
        replace hS : Sat w0 w [.blk g1 [vc, vA, vb], .blk g2 [.int .i64 0, .int .i64 0, .slice none 0 0, .slice none 0 0, .slice none 0 0], .own v11 1 22 (nC + 1) (gsn wv nC v9), .blk g3 [.int .i64 p.n, .int .i64 1, v7, wF, wC], .sem (Frame.rows 3 nC wv ((startT p).ln) ((startT p).C)), .own wF 1 3 nF (ints fF), .own v7 1 3 (mB + 1) (ints (snoc fB mB (p.n + i))), .own v6 1 3 1 (ints (fun _ => p.n + i)), .own v9 1 3 ((p.ln i) + 1) (ints (cat 1 (fun _ => -(p.b i)) (p.A i))), .own v10 1 22 1 (fun _ => v9)] := hS
        replace hS := Sat.merge (l1 := [.blk g1 [vc, vA, vb], .blk g2 [.int .i64 0, .int .i64 0, .slice none 0 0, .slice none 0 0, .slice none 0 0], .own v11 1 22 (nC + 1) (gsn wv nC v9), .blk g3 [.int .i64 p.n, .int .i64 1, v7, wF, wC]]) (l2 := [.own wF 1 3 nF (ints fF), .own v7 1 3 (mB + 1) (ints (snoc fB mB (p.n + i))), .own v6 1 3 1 (ints (fun _ => p.n + i))]) (l3 := [.own v10 1 22 1 (fun _ => v9)]) hS (by omega)
        have hrs2 := fun k (k0 : 0 ≤ k) (k1 : k < nC + 1) => hS.slhIn 4 rfl k0 k1
        replace hS : Sat w0 w [.blk g1 [vc, vA, vb], .blk g2 [.int .i64 0, .int .i64 0, .slice none 0 0, .slice none 0 0, .slice none 0 0], .own v11 1 22 (nC + 1) (gsn wv nC v9), .blk g3 [.int .i64 p.n, .int .i64 1, v7, wF, wC], .sem (Frame.rows 3 (nC + 1) (gsn wv nC v9) (gsn ((startT p).ln) nC ((p.ln i) + 1)) (gsn ((startT p).C) nC (cat 1 (fun _ => -(p.b i)) (p.A i)))), .own wF 1 3 nF (ints fF), .own v7 1 3 (mB + 1) (ints (snoc fB mB (p.n + i))), .own v6 1 3 1 (ints (fun _ => p.n + i)), .own v10 1 22 1 (fun _ => v9)] := hS
        refine ⟨⟨(fun _ => hS.sub (.cons_cons _ (.cons_cons _ (.cons _ (.cons_cons _ (.cons _ (.cons _ (.cons _ (.cons _ (.cons _ .slnil)))))))))), hS.sub (.cons_cons _ (.cons_cons _ (.cons _ (.cons _ (.cons _ (.cons _ (.cons _ (.cons _ (.cons _ .slnil)))))))))⟩, fun hB => ?_⟩
        refine dr_val hF hcl hB 13 rfl (.free rfl) rfl rfl (by kernel_rfl) rfl (fun w => (ex_field (b := ⟨g3, 4, none⟩) rfl fd_43_4 rfl rfl)) ?_; clear hF a hcl hB; intro a hF hcl hB
        refine dr_effx hF hcl 14 rfl (.free rfl) rfl (by kernel_rfl) (st_blk 3 rfl pl_23 hS rfl rfl rfl hv11.one rfl) ?_; clear hS hB; rintro w hS hcl
        replace hS : Sat w0 w [.blk g1 [vc, vA, vb], .blk g2 [.int .i64 0, .int .i64 0, .slice none 0 0, .slice none 0 0, .slice none 0 0], .own v11 1 22 (nC + 1) (gsn wv nC v9), .blk g3 [.int .i64 p.n, .int .i64 1, v7, wF, v11], .sem (Frame.rows 3 (nC + 1) (gsn wv nC v9) (gsn ((startT p).ln) nC ((p.ln i) + 1)) (gsn ((startT p).C) nC (cat 1 (fun _ => -(p.b i)) (p.A i)))), .own wF 1 3 nF (ints fF), .own v7 1 3 (mB + 1) (ints (snoc fB mB (p.n + i))), .own v6 1 3 1 (ints (fun _ => p.n + i)), .own v10 1 22 1 (fun _ => v9)] := hS
        refine ⟨⟨(fun h => absurd h (by decide)), hS.sub (.cons_cons _ (.cons_cons _ (.cons _ (.cons _ (.cons _ (.cons _ (.cons _ (.cons _ (.cons _ .slnil)))))))))⟩, fun hB => ?_⟩
        refine dr_done (by kernel_rfl) ?_; clear hcl hB
        refine inb_normal ?_
        refine then_normal ?_
        refine wp_region_lit ?_
        refine ls_val hF (.free rfl) rfl rfl (ex_add (r := i + 1) rfl rfl rfl (by omega) (by unfold I64; omega)) ?_; clear hF a; intro a hF
        replace hS := hS.rerows (vv' := gsn wv nC v9) (ln' := (startT p).ln) (f' := (startT p).C) 4 rfl (fun k k0 k1 => by
          by_cases e : k < i + 1
          · exact ⟨rfl, gsn_lt (by omega), fun j _ _ => by rw [gsn_lt (by omega)]⟩
          · have hki : k = i + 1 := by omega
            refine ⟨rfl, ?_, fun j j0 j1 => ?_⟩
            · rw [gsn_at (by omega)]; show _ = p.n + 1; omega
            · rw [gsn_at (by omega)]; unfold startT cat; dsimp only; (repeat' split) <;> first | rfl | omega | (congr 2; omega) | (congr 1; omega))
        replace hS : Sat w0 w [.blk g1 [vc, vA, vb], .blk g2 [.int .i64 0, .int .i64 0, .slice none 0 0, .slice none 0 0, .slice none 0 0], .own v11 1 22 (nC + 1) (gsn wv nC v9), .blk g3 [.int .i64 p.n, .int .i64 1, v7, wF, v11], .sem (Frame.rows 3 (nC + 1) (gsn wv nC v9) ((startT p).ln) ((startT p).C)), .own wF 1 3 nF (ints fF), .own v7 1 3 (mB + 1) (ints (snoc fB mB (p.n + i))), .own v6 1 3 1 (ints (fun _ => p.n + i)), .own v10 1 22 1 (fun _ => v9)] := hS
        have hrs2x := fun k (k0 : 0 ≤ k) (k1 : k < nC + 1) => hS.slhIn 4 rfl k0 k1
        refine ls_val hF (.free rfl) rfl rfl (ex_move rfl rfl) ?_; clear hF a; intro a hF
        refine ls_nil ?_
        refine then_normal ?_
        refine ⟨_, (by omega), mB + 1, nC + 1, gsn wv nC v9, i + 1, v7, (snoc fB mB (p.n + i)), v11, rfl, (by omega), (by omega), (by omega), (by omega), ?_, ?_, ?_, (hF.pick (hF.pick (hF.pick (hF.pick (hF.pick (hF.pick (hF.pick hF.nil 37 rfl) 36 rfl) 35 rfl) 4 rfl) 3 rfl) 2 rfl) 1 rfl), hS.sub (.cons_cons _ (.cons_cons _ (.cons_cons _ (.cons_cons _ (.cons_cons _ (.cons_cons _ (.cons_cons _ (.cons _ (.cons _ .slnil)))))))))⟩
        ·
         intro k k0 k1; by_cases e : k < mB
         · rw [snoc_lt e]; exact hfB k k0 (by omega)
         · rw [snoc_at e]; omega
        ·
         exact hv7
        ·
         exact hv11
       ·
        refine wp_exit ?_
        refine then_exit ?_
        refine then_exit ?_
        refine inb_hit ?_
        refine then_normal ?_
        refine cw_seq ?_
        refine wp_region_lit ?_
        refine ls_val hF (.free rfl) rfl rfl (ex_loads_blk 3 rfl st_43 rfl hS rfl rfl) ?_; clear hF a; intro a hF
        refine ls_effx hF (.free rfl) rfl (st_blks 1 (ds := [.int .i64 p.n, .int .i64 1, wB, wF, wC]) rfl st_43 hS rfl rfl rfl rfl (ones_cons rfl (ones_cons rfl (ones_cons hwB.one (ones_cons hwF.one (ones_cons hwC.one ones_nil)))))) ?_; clear hS; rintro w hS
        replace hS : Sat w0 w [.blk g1 [vc, vA, vb], .blk g2 [.int .i64 p.n, .int .i64 1, wB, wF, wC], .own wC 1 22 nC wv, .blk g3 [.int .i64 p.n, .int .i64 1, wB, wF, wC], .sem (Frame.rows 3 nC wv ((startT p).ln) ((startT p).C)), .own wF 1 3 nF (ints fF), .own wB 1 3 mB (ints fB)] := hS
        refine ls_val hF (.free rfl) rfl rfl (ex_assign rfl rfl) ?_; clear hF a; intro a hF
        refine ls_nil ?_
        refine then_normal ?_
        refine wp_ret ?_
        refine (fin_ct 1 hF rfl rfl rfl st_43 hS rfl rfl ⟨_, rfl, ?_⟩)
        obtain rfl : i = p.m := by omega
        obtain rfl : mB = p.m := by omega
        obtain rfl : nC = p.m + 1 := by omega
        obtain rfl : nF = p.n := by omega
        replace hS := hS.recont 6 rfl (d := ints (startT p).B) (fun k k0 k1 => by unfold ints; rw [hfB k k0 (by simp at k1; omega)]; rfl)
        replace hS := hS.recont 5 rfl (d := ints (startT p).F) (fun k k0 k1 => by unfold ints; rw [hfF k k0 (by simp at k1; omega)]; rfl)
        exact ⟨_, _, _, _, startT p, 0, rfl, .inr ⟨hl, rfl, rfl⟩, hwB, hwF, hwC, (hS.sub (.cons _ (.cons _ (.cons_cons _ (.cons _ (.cons_cons _ (.cons_cons _ (.cons_cons _ .slnil)))))))).perm (perm_step (l1 := [_, _, _]) (l2 := []) (perm_step (l1 := [_, _]) (l2 := []) (List.Perm.refl _)))⟩

end Go.Proofs.Ytakgjpmhbfieeaa
