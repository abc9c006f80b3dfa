/- The walk of Proper, of the reference. -/
import Derived.Test.YtakgjpmhbfieeaaW21
namespace Go.Proofs.Ytakgjpmhbfieeaa
open Go Go.RowKit Go.Proofs.Gw
set_option linter.unusedVariables false

theorem el_4 : elemT Try.prog 4 = some (.bool false, 1, 1) := by kernel_rfl
theorem pl_4 : plainT Try.prog 4 = true := by kernel_rfl
theorem sl_84 : sliceT Try.prog 84 = some (4, 1) := by kernel_rfl
theorem all_cat (t : Tb) {k : Int} (k0 : 0 ≤ k) : (cat t.nb (cat 0 (fun _ => 0) t.B) t.F) k = cat t.nb t.B t.F k := by
  unfold cat; (repeat' split) <;> first | rfl | omega | (congr 1; omega)
theorem all_perm {t : Tb} (hp : TPrp t) (hm : 0 ≤ t.nb) : PermF (cat t.nb (cat 0 (fun _ => 0) t.B) t.F) (t.nb + t.nf) :=
  (perm_swap (by have := hp.n1; omega) hm hp.perm).congr fun k k0 _ => (all_cat t k0).symm

set_option maxRecDepth 20000 in
theorem c_rproper {vB vF vC : Value} {vv : Int → Value} {t : Tb} (w0 : World) (hT : TAt w0 vB vF vC vv t) :
    Calls Try.prog 23 [.agg #[.int .i64 t.vars, .int .i64 t.den, vB, vF, vC]].toArray w0 fun e w => ∃ v, e = .returned v ∧ v = B (TPrp t) ∧ Sat w0 w [] := by
  have hn := hT.F.slh.n0; have hn1 := hT.F.slh.n1; have hb := hT.B.slh.n0; have hb1 := hT.B.slh.n1; have hc0 := hT.C.row.slh.n0; have hc1 := hT.C.row.slh.n1
  refine enterS (vs := [.agg #[.int .i64 t.vars, .int .i64 t.den, vB, vF, vC]]) Try.func23 rfl Try.ntmps23 rfl ?_
  intro a w hS hF
  refine cw_seq ?_
  refine wp_region_lit ?_
  refine ls_any hF (.free rfl) rfl rfl (ex_box (cs := [.int .i64 t.vars, .int .i64 t.den, vB, vF, vC]) rfl hS rfl rfl) ?_; clear hF; rintro _ w ⟨g1, rfl, hS⟩ a hF
  replace hS : Sat w0 w [.blk g1 [.int .i64 t.vars, .int .i64 t.den, vB, vF, vC]] := hS
  refine ls_val hF (.free rfl) rfl rfl (ex_assign rfl rfl) ?_; clear hF a; intro a hF
  refine ls_nil ?_
  refine then_normal ?_
  refine cw_seq ?_
  refine dr_sat (m0 := [.blk g1 [.int .i64 t.vars, .int .i64 t.den, vB, vF, vC]]) (m1 := [.blk g1 [.int .i64 t.vars, .int .i64 t.den, vB, vF, vC]]) 1000 mx_ hS (.cons_cons _ .slnil) (.cons_cons _ .slnil) rfl ?_; clear hS; intro w hS hcl hB
  refine dr_val hF hcl hB 0 rfl (.free rfl) rfl rfl (by kernel_rfl) rfl (fun w => (ex_field (b := ⟨g1, 2, none⟩) rfl fd_48_2 rfl rfl)) ?_; clear hF a hcl hB; intro a hF hcl hB
  refine dr_loadA hF hcl hB 1 rfl (.free rfl) rfl rfl (by kernel_rfl) rfl (fun w hS => (ex_load_blk 0 rfl pl_22 rfl hS rfl rfl)) ?_; clear hF a hcl hB; intro a hF hcl hB
  refine dr_val hF hcl hB 2 rfl (.free rfl) rfl rfl (by kernel_rfl) rfl (fun w => (ex_len rfl sl_22 rfl hT.B.slh)) ?_; clear hF a hcl hB; intro a hF hcl hB
  refine dr_val hF hcl hB 3 rfl (.free rfl) rfl rfl (by kernel_rfl) rfl (fun w => (ex_field (b := ⟨g1, 3, none⟩) rfl fd_48_3 rfl rfl)) ?_; clear hF a hcl hB; intro a hF hcl hB
  refine dr_loadA hF hcl hB 4 rfl (.free rfl) rfl rfl (by kernel_rfl) rfl (fun w hS => (ex_load_blk 0 rfl pl_22 rfl hS rfl rfl)) ?_; clear hF a hcl hB; intro a hF hcl hB
  refine dr_val hF hcl hB 5 rfl (.free rfl) rfl rfl (by kernel_rfl) rfl (fun w => (ex_len rfl sl_22 rfl hT.F.slh)) ?_; clear hF a hcl hB; intro a hF hcl hB
  refine dr_val hF hcl hB 6 rfl (.free rfl) rfl rfl (by kernel_rfl) rfl (fun w => (ex_assign rfl rfl)) ?_; clear hF a hcl hB; intro a hF hcl hB
  refine dr_val hF hcl hB 7 rfl (.free rfl) rfl rfl (by kernel_rfl) rfl (fun w => (ex_assign rfl rfl)) ?_; clear hF a hcl hB; intro a hF hcl hB
  refine dr_done (by kernel_rfl) ?_; clear hcl hB
  refine then_normal ?_
  refine cw_seq ?_
  refine cw_seq ?_
  refine wp_region_lit ?_
  refine ls_val hF (.free rfl) rfl rfl (ex_move rfl rfl) ?_; clear hF a; intro a hF
  refine ls_val hF (.free rfl) rfl rfl (ex_lss rfl rfl rfl) ?_; clear hF a; intro a hF
  refine ls_val hF (.free rfl) rfl rfl (ex_move rfl rfl) ?_; clear hF a; intro a hF
  refine by_slot hF (d := 17) rfl ?_ ?_ <;> clear hF <;> intro hc hF
  ·
   refine ls_off hF (.on rfl rfl rfl rfl rfl) rfl rfl ?_; clear hF a; intro a hF
   refine ls_off hF (.on rfl rfl rfl rfl rfl) rfl rfl ?_; clear hF a; intro a hF
   refine ls_val hF (.free rfl) rfl rfl (ex_pick_t rfl rfl rfl) ?_; clear hF a; intro a hF
   refine ls_val hF (.free rfl) rfl rfl (ex_move rfl rfl) ?_; clear hF a; intro a hF
   refine ls_off hF (.on rfl rfl rfl rfl rfl) rfl rfl ?_; clear hF a; intro a hF
   refine ls_off hF (.on rfl rfl rfl rfl rfl) rfl rfl ?_; clear hF a; intro a hF
   refine ls_val hF (.free rfl) rfl rfl (ex_pick_t rfl rfl rfl) ?_; clear hF a; intro a hF
   refine ls_val hF (.free rfl) rfl rfl (ex_move rfl rfl) ?_; clear hF a; intro a hF
   refine ls_off hF (.on rfl rfl rfl rfl rfl) rfl rfl ?_; clear hF a; intro a hF
   refine ls_off hF (.on rfl rfl rfl rfl rfl) rfl rfl ?_; clear hF a; intro a hF
   refine ls_off hF (.on rfl rfl rfl rfl rfl) rfl rfl ?_; clear hF a; intro a hF
   refine ls_off hF (.on rfl rfl rfl rfl rfl) rfl rfl ?_; clear hF a; intro a hF
   refine ls_val hF (.free rfl) rfl rfl (ex_pick_t rfl rfl rfl) ?_; clear hF a; intro a hF
   refine ls_val hF (.free rfl) rfl rfl (ex_move rfl rfl) ?_; clear hF a; intro a hF
   refine ls_off hF (.on rfl rfl rfl rfl rfl) rfl rfl ?_; clear hF a; intro a hF
   refine ls_off hF (.on rfl rfl rfl rfl rfl) rfl rfl ?_; clear hF a; intro a hF
   refine ls_off hF (.on rfl rfl rfl rfl rfl) rfl rfl ?_; clear hF a; intro a hF
   refine ls_off hF (.on rfl rfl rfl rfl rfl) rfl rfl ?_; clear hF a; intro a hF
   refine ls_off hF (.on rfl rfl rfl rfl rfl) rfl rfl ?_; clear hF a; intro a hF
   refine ls_off hF (.on rfl rfl rfl rfl rfl) rfl rfl ?_; clear hF a; intro a hF
   refine ls_val hF (.free rfl) rfl rfl (ex_pick_t rfl rfl rfl) ?_; clear hF a; intro a hF
   refine ls_val hF (.free rfl) rfl rfl (ex_move rfl rfl) ?_; clear hF a; intro a hF
   refine ls_off hF (.on rfl rfl rfl rfl rfl) rfl rfl ?_; clear hF a; intro a hF
   refine ls_off hF (.on rfl rfl rfl rfl rfl) rfl rfl ?_; clear hF a; intro a hF
   refine ls_off hF (.on rfl rfl rfl rfl rfl) rfl rfl ?_; clear hF a; intro a hF
   refine ls_val hF (.free rfl) rfl rfl (ex_pick_t rfl rfl rfl) ?_; clear hF a; intro a hF
   refine ls_val hF (.free rfl) rfl rfl (ex_move rfl rfl) ?_; clear hF a; intro a hF
   refine ls_off hF (.on rfl rfl rfl rfl rfl) rfl rfl ?_; clear hF a; intro a hF
   refine ls_off hF (.on rfl rfl rfl rfl rfl) rfl rfl ?_; clear hF a; intro a hF
   refine ls_off hF (.on rfl rfl rfl rfl rfl) rfl rfl ?_; clear hF a; intro a hF
   refine ls_val hF (.free rfl) rfl rfl (ex_pick_t rfl rfl rfl) ?_; clear hF a; intro a hF
   refine ls_nil ?_
   refine then_normal ?_
   refine cw_t hF rfl ?_
   refine cw_seq ?_
   refine wp_region_lit ?_
   refine ls_val hF (.free rfl) rfl rfl (ex_assign rfl rfl) ?_; clear hF a; intro a hF
   refine ls_nil ?_
   refine then_normal ?_
   refine wp_ret ?_
   refine then_ret ((fin1 hF rfl rfl ⟨_, rfl, ?_⟩))
   exact ⟨false_B (by
    intro hp; have b1 := hp.n1; have b2 := hp.n2; have b3 := hp.m2; have b4 := hp.v; have b5 := hp.d1; have b6 := hp.d2; have b7 := hp.c; have b8 := all_perm hp (by omega)
    first
    | omega
    | (have hr := (hp.rows i h0 (by omega)).1; omega)
    | exact absurd (fun j j0 j1 => (hp.rows i h0 (by omega)).2 j j0 j1) ‹¬ (∀ k, 0 ≤ k → k < t.ln i → -1073741824 ≤ t.C i k ∧ t.C i k ≤ 1073741824)›
    | (have := b8.1 q q0 (by omega); omega)
    | (obtain ⟨j, j0, j1, e⟩ := ‹∃ j, 0 ≤ j ∧ j < q ∧ (cat t.nb (cat 0 (fun _ => 0) t.B) t.F) j = (cat t.nb (cat 0 (fun _ => 0) t.B) t.F) q›; have := b8.2 j q j0 (by omega) q0 (by omega) e; omega)), hS.sub (.cons _ .slnil)⟩
  ·
   refine ls_val hF (.on rfl rfl rfl rfl rfl) rfl rfl (ex_move rfl rfl) ?_; clear hF a; intro a hF
   refine ls_val hF (.on rfl rfl rfl rfl rfl) rfl rfl (ex_gtr rfl rfl rfl) ?_; clear hF a; intro a hF
   refine ls_val hF (.free rfl) rfl rfl (ex_pick_f rfl rfl rfl) ?_; clear hF a; intro a hF
   refine ls_val hF (.free rfl) rfl rfl (ex_move rfl rfl) ?_; clear hF a; intro a hF
   refine by_slot hF (d := 21) rfl ?_ ?_ <;> clear hF <;> intro hc hF
   ·
    refine ls_off hF (.on rfl rfl rfl rfl rfl) rfl rfl ?_; clear hF a; intro a hF
    refine ls_off hF (.on rfl rfl rfl rfl rfl) rfl rfl ?_; clear hF a; intro a hF
    refine ls_val hF (.free rfl) rfl rfl (ex_pick_t rfl rfl rfl) ?_; clear hF a; intro a hF
    refine ls_val hF (.free rfl) rfl rfl (ex_move rfl rfl) ?_; clear hF a; intro a hF
    refine ls_off hF (.on rfl rfl rfl rfl rfl) rfl rfl ?_; clear hF a; intro a hF
    refine ls_off hF (.on rfl rfl rfl rfl rfl) rfl rfl ?_; clear hF a; intro a hF
    refine ls_off hF (.on rfl rfl rfl rfl rfl) rfl rfl ?_; clear hF a; intro a hF
    refine ls_off hF (.on rfl rfl rfl rfl rfl) rfl rfl ?_; clear hF a; intro a hF
    refine ls_val hF (.free rfl) rfl rfl (ex_pick_t rfl rfl rfl) ?_; clear hF a; intro a hF
    refine ls_val hF (.free rfl) rfl rfl (ex_move rfl rfl) ?_; clear hF a; intro a hF
    refine ls_off hF (.on rfl rfl rfl rfl rfl) rfl rfl ?_; clear hF a; intro a hF
    refine ls_off hF (.on rfl rfl rfl rfl rfl) rfl rfl ?_; clear hF a; intro a hF
    refine ls_off hF (.on rfl rfl rfl rfl rfl) rfl rfl ?_; clear hF a; intro a hF
    refine ls_off hF (.on rfl rfl rfl rfl rfl) rfl rfl ?_; clear hF a; intro a hF
    refine ls_off hF (.on rfl rfl rfl rfl rfl) rfl rfl ?_; clear hF a; intro a hF
    refine ls_off hF (.on rfl rfl rfl rfl rfl) rfl rfl ?_; clear hF a; intro a hF
    refine ls_val hF (.free rfl) rfl rfl (ex_pick_t rfl rfl rfl) ?_; clear hF a; intro a hF
    refine ls_val hF (.free rfl) rfl rfl (ex_move rfl rfl) ?_; clear hF a; intro a hF
    refine ls_off hF (.on rfl rfl rfl rfl rfl) rfl rfl ?_; clear hF a; intro a hF
    refine ls_off hF (.on rfl rfl rfl rfl rfl) rfl rfl ?_; clear hF a; intro a hF
    refine ls_off hF (.on rfl rfl rfl rfl rfl) rfl rfl ?_; clear hF a; intro a hF
    refine ls_val hF (.free rfl) rfl rfl (ex_pick_t rfl rfl rfl) ?_; clear hF a; intro a hF
    refine ls_val hF (.free rfl) rfl rfl (ex_move rfl rfl) ?_; clear hF a; intro a hF
    refine ls_off hF (.on rfl rfl rfl rfl rfl) rfl rfl ?_; clear hF a; intro a hF
    refine ls_off hF (.on rfl rfl rfl rfl rfl) rfl rfl ?_; clear hF a; intro a hF
    refine ls_off hF (.on rfl rfl rfl rfl rfl) rfl rfl ?_; clear hF a; intro a hF
    refine ls_val hF (.free rfl) rfl rfl (ex_pick_t rfl rfl rfl) ?_; clear hF a; intro a hF
    refine ls_nil ?_
    refine then_normal ?_
    refine cw_t hF rfl ?_
    refine cw_seq ?_
    refine wp_region_lit ?_
    refine ls_val hF (.free rfl) rfl rfl (ex_assign rfl rfl) ?_; clear hF a; intro a hF
    refine ls_nil ?_
    refine then_normal ?_
    refine wp_ret ?_
    refine then_ret ((fin1 hF rfl rfl ⟨_, rfl, ?_⟩))
    exact ⟨false_B (by
     intro hp; have b1 := hp.n1; have b2 := hp.n2; have b3 := hp.m2; have b4 := hp.v; have b5 := hp.d1; have b6 := hp.d2; have b7 := hp.c; have b8 := all_perm hp (by omega)
     first
     | omega
     | (have hr := (hp.rows i h0 (by omega)).1; omega)
     | exact absurd (fun j j0 j1 => (hp.rows i h0 (by omega)).2 j j0 j1) ‹¬ (∀ k, 0 ≤ k → k < t.ln i → -1073741824 ≤ t.C i k ∧ t.C i k ≤ 1073741824)›
     | (have := b8.1 q q0 (by omega); omega)
     | (obtain ⟨j, j0, j1, e⟩ := ‹∃ j, 0 ≤ j ∧ j < q ∧ (cat t.nb (cat 0 (fun _ => 0) t.B) t.F) j = (cat t.nb (cat 0 (fun _ => 0) t.B) t.F) q›; have := b8.2 j q j0 (by omega) q0 (by omega) e; omega)), hS.sub (.cons _ .slnil)⟩
   ·
    refine ls_val hF (.on rfl rfl rfl rfl rfl) rfl rfl (ex_move rfl rfl) ?_; clear hF a; intro a hF
    refine ls_val hF (.on rfl rfl rfl rfl rfl) rfl rfl (ex_gtr rfl rfl rfl) ?_; clear hF a; intro a hF
    refine ls_val hF (.free rfl) rfl rfl (ex_pick_f rfl rfl rfl) ?_; clear hF a; intro a hF
    refine ls_val hF (.free rfl) rfl rfl (ex_move rfl rfl) ?_; clear hF a; intro a hF
    refine by_slot hF (d := 25) rfl ?_ ?_ <;> clear hF <;> intro hc hF
    ·
     refine ls_off hF (.on rfl rfl rfl rfl rfl) rfl rfl ?_; clear hF a; intro a hF
     refine ls_off hF (.on rfl rfl rfl rfl rfl) rfl rfl ?_; clear hF a; intro a hF
     refine ls_off hF (.on rfl rfl rfl rfl rfl) rfl rfl ?_; clear hF a; intro a hF
     refine ls_off hF (.on rfl rfl rfl rfl rfl) rfl rfl ?_; clear hF a; intro a hF
     refine ls_val hF (.free rfl) rfl rfl (ex_pick_t rfl rfl rfl) ?_; clear hF a; intro a hF
     refine ls_val hF (.free rfl) rfl rfl (ex_move rfl rfl) ?_; clear hF a; intro a hF
     refine ls_off hF (.on rfl rfl rfl rfl rfl) rfl rfl ?_; clear hF a; intro a hF
     refine ls_off hF (.on rfl rfl rfl rfl rfl) rfl rfl ?_; clear hF a; intro a hF
     refine ls_off hF (.on rfl rfl rfl rfl rfl) rfl rfl ?_; clear hF a; intro a hF
     refine ls_off hF (.on rfl rfl rfl rfl rfl) rfl rfl ?_; clear hF a; intro a hF
     refine ls_off hF (.on rfl rfl rfl rfl rfl) rfl rfl ?_; clear hF a; intro a hF
     refine ls_off hF (.on rfl rfl rfl rfl rfl) rfl rfl ?_; clear hF a; intro a hF
     refine ls_val hF (.free rfl) rfl rfl (ex_pick_t rfl rfl rfl) ?_; clear hF a; intro a hF
     refine ls_val hF (.free rfl) rfl rfl (ex_move rfl rfl) ?_; clear hF a; intro a hF
     refine ls_off hF (.on rfl rfl rfl rfl rfl) rfl rfl ?_; clear hF a; intro a hF
     refine ls_off hF (.on rfl rfl rfl rfl rfl) rfl rfl ?_; clear hF a; intro a hF
     refine ls_off hF (.on rfl rfl rfl rfl rfl) rfl rfl ?_; clear hF a; intro a hF
     refine ls_val hF (.free rfl) rfl rfl (ex_pick_t rfl rfl rfl) ?_; clear hF a; intro a hF
     refine ls_val hF (.free rfl) rfl rfl (ex_move rfl rfl) ?_; clear hF a; intro a hF
     refine ls_off hF (.on rfl rfl rfl rfl rfl) rfl rfl ?_; clear hF a; intro a hF
     refine ls_off hF (.on rfl rfl rfl rfl rfl) rfl rfl ?_; clear hF a; intro a hF
     refine ls_off hF (.on rfl rfl rfl rfl rfl) rfl rfl ?_; clear hF a; intro a hF
     refine ls_val hF (.free rfl) rfl rfl (ex_pick_t rfl rfl rfl) ?_; clear hF a; intro a hF
     refine ls_nil ?_
     refine then_normal ?_
     refine cw_t hF rfl ?_
     refine cw_seq ?_
     refine wp_region_lit ?_
     refine ls_val hF (.free rfl) rfl rfl (ex_assign rfl rfl) ?_; clear hF a; intro a hF
     refine ls_nil ?_
     refine then_normal ?_
     refine wp_ret ?_
     refine then_ret ((fin1 hF rfl rfl ⟨_, rfl, ?_⟩))
     exact ⟨false_B (by
      intro hp; have b1 := hp.n1; have b2 := hp.n2; have b3 := hp.m2; have b4 := hp.v; have b5 := hp.d1; have b6 := hp.d2; have b7 := hp.c; have b8 := all_perm hp (by omega)
      first
      | omega
      | (have hr := (hp.rows i h0 (by omega)).1; omega)
      | exact absurd (fun j j0 j1 => (hp.rows i h0 (by omega)).2 j j0 j1) ‹¬ (∀ k, 0 ≤ k → k < t.ln i → -1073741824 ≤ t.C i k ∧ t.C i k ≤ 1073741824)›
      | (have := b8.1 q q0 (by omega); omega)
      | (obtain ⟨j, j0, j1, e⟩ := ‹∃ j, 0 ≤ j ∧ j < q ∧ (cat t.nb (cat 0 (fun _ => 0) t.B) t.F) j = (cat t.nb (cat 0 (fun _ => 0) t.B) t.F) q›; have := b8.2 j q j0 (by omega) q0 (by omega) e; omega)), hS.sub (.cons _ .slnil)⟩
    ·
     refine ls_val hF (.on rfl rfl rfl rfl rfl) rfl rfl (ex_field (b := ⟨g1, 0, none⟩) rfl fd_48_0 rfl rfl) ?_; clear hF a; intro a hF
     refine ls_val hF (.on rfl rfl rfl rfl rfl) rfl rfl (ex_load_blk 0 rfl pl_3 rfl hS rfl rfl) ?_; clear hF a; intro a hF
     refine ls_val hF (.on rfl rfl rfl rfl rfl) rfl rfl (ex_move rfl rfl) ?_; clear hF a; intro a hF
     refine ls_val hF (.on rfl rfl rfl rfl rfl) rfl rfl (ex_neq rfl rfl rfl) ?_; clear hF a; intro a hF
     refine ls_val hF (.free rfl) rfl rfl (ex_pick_f rfl rfl rfl) ?_; clear hF a; intro a hF
     refine ls_val hF (.free rfl) rfl rfl (ex_move rfl rfl) ?_; clear hF a; intro a hF
     refine by_slot hF (d := 31) rfl ?_ ?_ <;> clear hF <;> intro hc hF
     ·
      refine ls_off hF (.on rfl rfl rfl rfl rfl) rfl rfl ?_; clear hF a; intro a hF
      refine ls_off hF (.on rfl rfl rfl rfl rfl) rfl rfl ?_; clear hF a; intro a hF
      refine ls_off hF (.on rfl rfl rfl rfl rfl) rfl rfl ?_; clear hF a; intro a hF
      refine ls_off hF (.on rfl rfl rfl rfl rfl) rfl rfl ?_; clear hF a; intro a hF
      refine ls_off hF (.on rfl rfl rfl rfl rfl) rfl rfl ?_; clear hF a; intro a hF
      refine ls_off hF (.on rfl rfl rfl rfl rfl) rfl rfl ?_; clear hF a; intro a hF
      refine ls_val hF (.free rfl) rfl rfl (ex_pick_t rfl rfl rfl) ?_; clear hF a; intro a hF
      refine ls_val hF (.free rfl) rfl rfl (ex_move rfl rfl) ?_; clear hF a; intro a hF
      refine ls_off hF (.on rfl rfl rfl rfl rfl) rfl rfl ?_; clear hF a; intro a hF
      refine ls_off hF (.on rfl rfl rfl rfl rfl) rfl rfl ?_; clear hF a; intro a hF
      refine ls_off hF (.on rfl rfl rfl rfl rfl) rfl rfl ?_; clear hF a; intro a hF
      refine ls_val hF (.free rfl) rfl rfl (ex_pick_t rfl rfl rfl) ?_; clear hF a; intro a hF
      refine ls_val hF (.free rfl) rfl rfl (ex_move rfl rfl) ?_; clear hF a; intro a hF
      refine ls_off hF (.on rfl rfl rfl rfl rfl) rfl rfl ?_; clear hF a; intro a hF
      refine ls_off hF (.on rfl rfl rfl rfl rfl) rfl rfl ?_; clear hF a; intro a hF
      refine ls_off hF (.on rfl rfl rfl rfl rfl) rfl rfl ?_; clear hF a; intro a hF
      refine ls_val hF (.free rfl) rfl rfl (ex_pick_t rfl rfl rfl) ?_; clear hF a; intro a hF
      refine ls_nil ?_
      refine then_normal ?_
      refine cw_t hF rfl ?_
      refine cw_seq ?_
      refine wp_region_lit ?_
      refine ls_val hF (.free rfl) rfl rfl (ex_assign rfl rfl) ?_; clear hF a; intro a hF
      refine ls_nil ?_
      refine then_normal ?_
      refine wp_ret ?_
      refine then_ret ((fin1 hF rfl rfl ⟨_, rfl, ?_⟩))
      exact ⟨false_B (by
       intro hp; have b1 := hp.n1; have b2 := hp.n2; have b3 := hp.m2; have b4 := hp.v; have b5 := hp.d1; have b6 := hp.d2; have b7 := hp.c; have b8 := all_perm hp (by omega)
       first
       | omega
       | (have hr := (hp.rows i h0 (by omega)).1; omega)
       | exact absurd (fun j j0 j1 => (hp.rows i h0 (by omega)).2 j j0 j1) ‹¬ (∀ k, 0 ≤ k → k < t.ln i → -1073741824 ≤ t.C i k ∧ t.C i k ≤ 1073741824)›
       | (have := b8.1 q q0 (by omega); omega)
       | (obtain ⟨j, j0, j1, e⟩ := ‹∃ j, 0 ≤ j ∧ j < q ∧ (cat t.nb (cat 0 (fun _ => 0) t.B) t.F) j = (cat t.nb (cat 0 (fun _ => 0) t.B) t.F) q›; have := b8.2 j q j0 (by omega) q0 (by omega) e; omega)), hS.sub (.cons _ .slnil)⟩
     ·
      refine ls_val hF (.on rfl rfl rfl rfl rfl) rfl rfl (ex_field (b := ⟨g1, 4, none⟩) rfl fd_48_4 rfl rfl) ?_; clear hF a; intro a hF
      refine ls_val hF (.on rfl rfl rfl rfl rfl) rfl rfl (ex_load_blk 0 rfl pl_23 rfl hS rfl rfl) ?_; clear hF a; intro a hF
      refine ls_val hF (.on rfl rfl rfl rfl rfl) rfl rfl (ex_len rfl sl_23 rfl hT.C.row.slh) ?_; clear hF a; intro a hF
      refine ls_val hF (.on rfl rfl rfl rfl rfl) rfl rfl (ex_move rfl rfl) ?_; clear hF a; intro a hF
      refine ls_val hF (.on rfl rfl rfl rfl rfl) rfl rfl (ex_add (r := t.nb + 1) rfl rfl rfl (by omega) (by unfold I64; omega)) ?_; clear hF a; intro a hF
      refine ls_val hF (.on rfl rfl rfl rfl rfl) rfl rfl (ex_neq rfl rfl rfl) ?_; clear hF a; intro a hF
      refine ls_val hF (.free rfl) rfl rfl (ex_pick_f rfl rfl rfl) ?_; clear hF a; intro a hF
      refine ls_val hF (.free rfl) rfl rfl (ex_move rfl rfl) ?_; clear hF a; intro a hF
      refine by_slot hF (d := 39) rfl ?_ ?_ <;> clear hF <;> intro hc hF
      ·
       refine ls_off hF (.on rfl rfl rfl rfl rfl) rfl rfl ?_; clear hF a; intro a hF
       refine ls_off hF (.on rfl rfl rfl rfl rfl) rfl rfl ?_; clear hF a; intro a hF
       refine ls_off hF (.on rfl rfl rfl rfl rfl) rfl rfl ?_; clear hF a; intro a hF
       refine ls_val hF (.free rfl) rfl rfl (ex_pick_t rfl rfl rfl) ?_; clear hF a; intro a hF
       refine ls_val hF (.free rfl) rfl rfl (ex_move rfl rfl) ?_; clear hF a; intro a hF
       refine ls_off hF (.on rfl rfl rfl rfl rfl) rfl rfl ?_; clear hF a; intro a hF
       refine ls_off hF (.on rfl rfl rfl rfl rfl) rfl rfl ?_; clear hF a; intro a hF
       refine ls_off hF (.on rfl rfl rfl rfl rfl) rfl rfl ?_; clear hF a; intro a hF
       refine ls_val hF (.free rfl) rfl rfl (ex_pick_t rfl rfl rfl) ?_; clear hF a; intro a hF
       refine ls_nil ?_
       refine then_normal ?_
       refine cw_t hF rfl ?_
       refine cw_seq ?_
       refine wp_region_lit ?_
       refine ls_val hF (.free rfl) rfl rfl (ex_assign rfl rfl) ?_; clear hF a; intro a hF
       refine ls_nil ?_
       refine then_normal ?_
       refine wp_ret ?_
       refine then_ret ((fin1 hF rfl rfl ⟨_, rfl, ?_⟩))
       exact ⟨false_B (by
        intro hp; have b1 := hp.n1; have b2 := hp.n2; have b3 := hp.m2; have b4 := hp.v; have b5 := hp.d1; have b6 := hp.d2; have b7 := hp.c; have b8 := all_perm hp (by omega)
        first
        | omega
        | (have hr := (hp.rows i h0 (by omega)).1; omega)
        | exact absurd (fun j j0 j1 => (hp.rows i h0 (by omega)).2 j j0 j1) ‹¬ (∀ k, 0 ≤ k → k < t.ln i → -1073741824 ≤ t.C i k ∧ t.C i k ≤ 1073741824)›
        | (have := b8.1 q q0 (by omega); omega)
        | (obtain ⟨j, j0, j1, e⟩ := ‹∃ j, 0 ≤ j ∧ j < q ∧ (cat t.nb (cat 0 (fun _ => 0) t.B) t.F) j = (cat t.nb (cat 0 (fun _ => 0) t.B) t.F) q›; have := b8.2 j q j0 (by omega) q0 (by omega) e; omega)), hS.sub (.cons _ .slnil)⟩
      ·
       refine ls_val hF (.on rfl rfl rfl rfl rfl) rfl rfl (ex_field (b := ⟨g1, 1, none⟩) rfl fd_48_1 rfl rfl) ?_; clear hF a; intro a hF
       refine ls_val hF (.on rfl rfl rfl rfl rfl) rfl rfl (ex_load_blk 0 rfl pl_3 rfl hS rfl rfl) ?_; clear hF a; intro a hF
       refine ls_val hF (.on rfl rfl rfl rfl rfl) rfl rfl (ex_lss rfl rfl rfl) ?_; clear hF a; intro a hF
       refine ls_val hF (.free rfl) rfl rfl (ex_pick_f rfl rfl rfl) ?_; clear hF a; intro a hF
       refine ls_val hF (.free rfl) rfl rfl (ex_move rfl rfl) ?_; clear hF a; intro a hF
       refine by_slot hF (d := 44) rfl ?_ ?_ <;> clear hF <;> intro hc hF
       ·
        refine ls_off hF (.on rfl rfl rfl rfl rfl) rfl rfl ?_; clear hF a; intro a hF
        refine ls_off hF (.on rfl rfl rfl rfl rfl) rfl rfl ?_; clear hF a; intro a hF
        refine ls_off hF (.on rfl rfl rfl rfl rfl) rfl rfl ?_; clear hF a; intro a hF
        refine ls_val hF (.free rfl) rfl rfl (ex_pick_t rfl rfl rfl) ?_; clear hF a; intro a hF
        refine ls_nil ?_
        refine then_normal ?_
        refine cw_t hF rfl ?_
        refine cw_seq ?_
        refine wp_region_lit ?_
        refine ls_val hF (.free rfl) rfl rfl (ex_assign rfl rfl) ?_; clear hF a; intro a hF
        refine ls_nil ?_
        refine then_normal ?_
        refine wp_ret ?_
        refine then_ret ((fin1 hF rfl rfl ⟨_, rfl, ?_⟩))
        exact ⟨false_B (by
         intro hp; have b1 := hp.n1; have b2 := hp.n2; have b3 := hp.m2; have b4 := hp.v; have b5 := hp.d1; have b6 := hp.d2; have b7 := hp.c; have b8 := all_perm hp (by omega)
         first
         | omega
         | (have hr := (hp.rows i h0 (by omega)).1; omega)
         | exact absurd (fun j j0 j1 => (hp.rows i h0 (by omega)).2 j j0 j1) ‹¬ (∀ k, 0 ≤ k → k < t.ln i → -1073741824 ≤ t.C i k ∧ t.C i k ≤ 1073741824)›
         | (have := b8.1 q q0 (by omega); omega)
         | (obtain ⟨j, j0, j1, e⟩ := ‹∃ j, 0 ≤ j ∧ j < q ∧ (cat t.nb (cat 0 (fun _ => 0) t.B) t.F) j = (cat t.nb (cat 0 (fun _ => 0) t.B) t.F) q›; have := b8.2 j q j0 (by omega) q0 (by omega) e; omega)), hS.sub (.cons _ .slnil)⟩
       ·
        refine ls_val hF (.on rfl rfl rfl rfl rfl) rfl rfl (ex_field (b := ⟨g1, 1, none⟩) rfl fd_48_1 rfl rfl) ?_; clear hF a; intro a hF
        refine ls_val hF (.on rfl rfl rfl rfl rfl) rfl rfl (ex_load_blk 0 rfl pl_3 rfl hS rfl rfl) ?_; clear hF a; intro a hF
        refine ls_val hF (.on rfl rfl rfl rfl rfl) rfl rfl (ex_gtr rfl rfl rfl) ?_; clear hF a; intro a hF
        refine ls_val hF (.free rfl) rfl rfl (ex_pick_f rfl rfl rfl) ?_; clear hF a; intro a hF
        refine ls_nil ?_
        refine then_normal ?_
        refine cw_if hF rfl (fun hc => ?_) (fun hc => ?_)
        ·
         refine cw_seq ?_
         refine wp_region_lit ?_
         refine ls_val hF (.free rfl) rfl rfl (ex_assign rfl rfl) ?_; clear hF a; intro a hF
         refine ls_nil ?_
         refine then_normal ?_
         refine wp_ret ?_
         refine then_ret ((fin1 hF rfl rfl ⟨_, rfl, ?_⟩))
         exact ⟨false_B (by
          intro hp; have b1 := hp.n1; have b2 := hp.n2; have b3 := hp.m2; have b4 := hp.v; have b5 := hp.d1; have b6 := hp.d2; have b7 := hp.c; have b8 := all_perm hp (by omega)
          first
          | omega
          | (have hr := (hp.rows i h0 (by omega)).1; omega)
          | exact absurd (fun j j0 j1 => (hp.rows i h0 (by omega)).2 j j0 j1) ‹¬ (∀ k, 0 ≤ k → k < t.ln i → -1073741824 ≤ t.C i k ∧ t.C i k ≤ 1073741824)›
          | (have := b8.1 q q0 (by omega); omega)
          | (obtain ⟨j, j0, j1, e⟩ := ‹∃ j, 0 ≤ j ∧ j < q ∧ (cat t.nb (cat 0 (fun _ => 0) t.B) t.F) j = (cat t.nb (cat 0 (fun _ => 0) t.B) t.F) q›; have := b8.2 j q j0 (by omega) q0 (by omega) e; omega)), hS.sub (.cons _ .slnil)⟩
        ·
         refine wp_skip ?_
         refine then_normal ?_
         refine cw_seq ?_
         refine cw_seq ?_
         refine wp_region_lit ?_
         refine ls_val hF (.free rfl) rfl rfl (ex_assign rfl rfl) ?_; clear hF a; intro a hF
         refine ls_nil ?_
         refine then_normal ?_
         refine wp_block ?_
         refine cw_loop (fun mm a w => ∃ (i : Int), mm = ((t.nc - i).toNat) ∧ (0 ≤ i) ∧ (i ≤ t.nc) ∧ (∀ k, 0 ≤ k → k < i → t.rowOk k) ∧ Fr a 121 [(1, .pointer (some ⟨g1, 0, none⟩)), (3, .int .i64 t.nb), (4, .int .i64 t.nf), (5, .int .i64 i)] ∧ Sat w0 w [.blk g1 [.int .i64 t.vars, .int .i64 t.den, vB, vF, vC]]) ?_ ?_ (m := ((t.nc - 0).toNat))
         ·
          refine ⟨0, rfl, (by omega), (by omega), ?_, (hF.pick (hF.pick (hF.pick (hF.pick hF.nil 5 rfl) 4 rfl) 3 rfl) 1 rfl), hS⟩
          ·
           intro k k0 k1; omega
         ·
          clear hF hS a w
          rintro mm a w ⟨i, rfl, h0, h1, hall, hF, hS⟩
          refine cw_seq ?_
          refine cw_seq ?_
          refine wp_region_lit ?_
          refine ls_val hF (.free rfl) rfl rfl (ex_move rfl rfl) ?_; clear hF a; intro a hF
          refine ls_val hF (.free rfl) rfl rfl (ex_field (b := ⟨g1, 4, none⟩) rfl fd_48_4 rfl rfl) ?_; clear hF a; intro a hF
          refine ls_val hF (.free rfl) rfl rfl (ex_load_blk 0 rfl pl_23 rfl hS rfl rfl) ?_; clear hF a; intro a hF
          refine ls_val hF (.free rfl) rfl rfl (ex_len rfl sl_23 rfl hT.C.row.slh) ?_; clear hF a; intro a hF
          refine ls_val hF (.free rfl) rfl rfl (ex_lss rfl rfl rfl) ?_; clear hF a; intro a hF
          refine ls_nil ?_
          refine then_normal ?_
          refine cw_if hF rfl (fun hc => ?_) (fun hc => ?_)
          ·
           refine wp_skip ?_
           refine then_normal ?_
           refine cw_seq ?_
           refine wp_block ?_
           refine cw_seq ?_
           refine wp_region_lit ?_
           refine ls_val hF (.free rfl) rfl rfl (ex_field (b := ⟨g1, 4, none⟩) rfl fd_48_4 rfl rfl) ?_; clear hF a; intro a hF
           refine ls_val hF (.free rfl) rfl rfl (ex_load_blk 0 rfl pl_23 rfl hS rfl rfl) ?_; clear hF a; intro a hF
           refine ls_val hF (.free rfl) rfl rfl (ex_move rfl rfl) ?_; clear hF a; intro a hF
           refine ls_val hF (.free rfl) rfl rfl (ex_index (k := i) rfl sl_23 rfl rfl hT.C.row.slh (by omega) (by omega) (by omega)) ?_; clear hF a; intro a hF
           refine ls_val hF (.free rfl) rfl rfl (ex_load_row (u := (vv i)) rfl pl_22 rfl (hT.C.row.below hS.below) (by omega) (by omega) rfl) ?_; clear hF a; intro a hF
           refine ls_val hF (.free rfl) rfl rfl (ex_len rfl sl_22 rfl (hT.C.p i (by omega) (by omega)).slh) ?_; clear hF a; intro a hF
           refine ls_val hF (.free rfl) rfl rfl (ex_move rfl rfl) ?_; clear hF a; intro a hF
           refine ls_val hF (.free rfl) rfl rfl (ex_add (r := t.nf + 1) rfl rfl rfl (by omega) (by unfold I64; omega)) ?_; clear hF a; intro a hF
           refine ls_val hF (.free rfl) rfl rfl (ex_neq rfl rfl rfl) ?_; clear hF a; intro a hF
           refine ls_val hF (.free rfl) rfl rfl (ex_move rfl rfl) ?_; clear hF a; intro a hF
           refine by_slot hF (d := 65) rfl ?_ ?_ <;> clear hF <;> intro hc hF
           ·
            refine ls_off hF (.on rfl rfl rfl rfl rfl) rfl rfl ?_; clear hF a; intro a hF
            refine ls_off hF (.on rfl rfl rfl rfl rfl) rfl rfl ?_; clear hF a; intro a hF
            refine ls_off hF (.on rfl rfl rfl rfl rfl) rfl rfl ?_; clear hF a; intro a hF
            refine ls_off hF (.on rfl rfl rfl rfl rfl) rfl rfl ?_; clear hF a; intro a hF
            refine ls_off hF (.on rfl rfl rfl rfl rfl) rfl rfl ?_; clear hF a; intro a hF
            refine ls_off hF (.on rfl rfl rfl rfl rfl) rfl rfl ?_; clear hF a; intro a hF
            refine ls_off hF (.on rfl rfl rfl rfl rfl) rfl rfl ?_; clear hF a; intro a hF
            refine ls_val hF (.free rfl) rfl rfl (ex_pick_t rfl rfl rfl) ?_; clear hF a; intro a hF
            refine ls_nil ?_
            refine then_normal ?_
            refine cw_t hF rfl ?_
            refine cw_seq ?_
            refine wp_region_lit ?_
            refine ls_val hF (.free rfl) rfl rfl (ex_assign rfl rfl) ?_; clear hF a; intro a hF
            refine ls_nil ?_
            refine then_normal ?_
            refine wp_ret ?_
            refine inb_ret (then_ret (then_ret (inb_ret (then_ret ((fin1 hF rfl rfl ⟨_, rfl, ?_⟩))))))
            exact ⟨false_B (by
             intro hp; have b1 := hp.n1; have b2 := hp.n2; have b3 := hp.m2; have b4 := hp.v; have b5 := hp.d1; have b6 := hp.d2; have b7 := hp.c; have b8 := all_perm hp (by omega)
             first
             | omega
             | (have hr := (hp.rows i h0 (by omega)).1; omega)
             | exact absurd (fun j j0 j1 => (hp.rows i h0 (by omega)).2 j j0 j1) ‹¬ (∀ k, 0 ≤ k → k < t.ln i → -1073741824 ≤ t.C i k ∧ t.C i k ≤ 1073741824)›
             | (have := b8.1 q q0 (by omega); omega)
             | (obtain ⟨j, j0, j1, e⟩ := ‹∃ j, 0 ≤ j ∧ j < q ∧ (cat t.nb (cat 0 (fun _ => 0) t.B) t.F) j = (cat t.nb (cat 0 (fun _ => 0) t.B) t.F) q›; have := b8.2 j q j0 (by omega) q0 (by omega) e; omega)), hS.sub (.cons _ .slnil)⟩
           ·
            refine ls_val hF (.on rfl rfl rfl rfl rfl) rfl rfl (ex_field (b := ⟨g1, 4, none⟩) rfl fd_48_4 rfl rfl) ?_; clear hF a; intro a hF
            refine ls_val hF (.on rfl rfl rfl rfl rfl) rfl rfl (ex_load_blk 0 rfl pl_23 rfl hS rfl rfl) ?_; clear hF a; intro a hF
            refine ls_val hF (.on rfl rfl rfl rfl rfl) rfl rfl (ex_move rfl rfl) ?_; clear hF a; intro a hF
            refine ls_val hF (.on rfl rfl rfl rfl rfl) rfl rfl (ex_index (k := i) rfl sl_23 rfl rfl hT.C.row.slh (by omega) (by omega) (by omega)) ?_; clear hF a; intro a hF
            refine ls_val hF (.on rfl rfl rfl rfl rfl) rfl rfl (ex_load_row (u := (vv i)) rfl pl_22 rfl (hT.C.row.below hS.below) (by omega) (by omega) rfl) ?_; clear hF a; intro a hF
            refine ls_call hF (.on rfl rfl rfl rfl rfl) rfl rfl (ex_call0 rfl rfl cl_39 (args_cons rfl (args_cons rfl (args_cons rfl args0)))) (c_within (n := (t.ln i)) (lo := (-1073741824)) (hi := 1073741824) (f := (t.C i)) w ((hT.C.p i (by omega) (by omega)).below hS.below)) ?_; clear hF; rintro _ w ⟨rfl, hS'⟩ a hF
            replace hS : Sat w0 w [.blk g1 [.int .i64 t.vars, .int .i64 t.den, vB, vF, vC]] := hS.comp hS'; clear hS'
            refine ls_val hF (.on rfl rfl rfl rfl rfl) rfl rfl (ex_not rfl rfl) ?_; clear hF a; intro a hF
            refine ls_val hF (.free rfl) rfl rfl (ex_pick_f rfl rfl rfl) ?_; clear hF a; intro a hF
            refine ls_nil ?_
            refine then_normal ?_
            refine cw_if hF rfl (fun hc => ?_) (fun hc => ?_)
            ·
             refine cw_seq ?_
             refine wp_region_lit ?_
             refine ls_val hF (.free rfl) rfl rfl (ex_assign rfl rfl) ?_; clear hF a; intro a hF
             refine ls_nil ?_
             refine then_normal ?_
             refine wp_ret ?_
             refine inb_ret (then_ret (then_ret (inb_ret (then_ret ((fin1 hF rfl rfl ⟨_, rfl, ?_⟩))))))
             exact ⟨false_B (by
              intro hp; have b1 := hp.n1; have b2 := hp.n2; have b3 := hp.m2; have b4 := hp.v; have b5 := hp.d1; have b6 := hp.d2; have b7 := hp.c; have b8 := all_perm hp (by omega)
              first
              | omega
              | (have hr := (hp.rows i h0 (by omega)).1; omega)
              | exact absurd (fun j j0 j1 => (hp.rows i h0 (by omega)).2 j j0 j1) ‹¬ (∀ k, 0 ≤ k → k < t.ln i → -1073741824 ≤ t.C i k ∧ t.C i k ≤ 1073741824)›
              | (have := b8.1 q q0 (by omega); omega)
              | (obtain ⟨j, j0, j1, e⟩ := ‹∃ j, 0 ≤ j ∧ j < q ∧ (cat t.nb (cat 0 (fun _ => 0) t.B) t.F) j = (cat t.nb (cat 0 (fun _ => 0) t.B) t.F) q›; have := b8.2 j q j0 (by omega) q0 (by omega) e; omega)), hS.sub (.cons _ .slnil)⟩
            ·
             refine wp_skip ?_
             refine inb_normal ?_
             refine then_normal ?_
             refine wp_region_lit ?_
             refine ls_val hF (.free rfl) rfl rfl (ex_move rfl rfl) ?_; clear hF a; intro a hF
             refine ls_val hF (.free rfl) rfl rfl (ex_add (r := i + 1) rfl rfl rfl (by omega) (by unfold I64; omega)) ?_; clear hF a; intro a hF
             refine ls_val hF (.free rfl) rfl rfl (ex_assign rfl rfl) ?_; clear hF a; intro a hF
             refine ls_nil ?_
             refine then_normal ?_
             refine ⟨_, (by omega), i + 1, rfl, (by omega), (by omega), ?_, (hF.pick (hF.pick (hF.pick (hF.pick hF.nil 5 rfl) 4 rfl) 3 rfl) 1 rfl), hS⟩
             ·
              have hq : ∀ k, 0 ≤ k → k < t.ln i → -1073741824 ≤ t.C i k ∧ t.C i k ≤ 1073741824 := by first | assumption | exact Classical.not_not.1 ‹_›
              intro k h0' h1'; rcases Int.lt_or_eq_of_le (show k ≤ i by omega) with hk | hk; exact hall k h0' hk; rw [hk]; exact ⟨by omega, fun j j0 j1 => hq j j0 j1⟩
          ·
           refine wp_exit ?_
           refine then_exit ?_
           refine then_exit ?_
           refine inb_hit ?_
           refine then_normal ?_
           refine cw_seq ?_
           refine dr_sat (m0 := [.blk g1 [.int .i64 t.vars, .int .i64 t.den, vB, vF, vC]]) (m1 := [.blk g1 [.int .i64 t.vars, .int .i64 t.den, vB, vF, vC]]) 1000 mx_ hS (.cons_cons _ .slnil) (.cons_cons _ .slnil) rfl ?_; clear hS; intro w hS hcl hB
           refine dr_val hF hcl hB 1 rfl (.free rfl) rfl rfl (by kernel_rfl) rfl (fun w => (ex_field (b := ⟨g1, 2, none⟩) rfl fd_48_2 rfl rfl)) ?_; clear hF a hcl hB; intro a hF hcl hB
           refine dr_loadA hF hcl hB 2 rfl (.free rfl) rfl rfl (by kernel_rfl) rfl (fun w hS => (ex_load_blk 0 rfl pl_22 rfl hS rfl rfl)) ?_; clear hF a hcl hB; intro a hF hcl hB
           refine dr_val hF hcl hB 4 rfl (.free rfl) rfl rfl (by kernel_rfl) rfl (fun w => (ex_field (b := ⟨g1, 3, none⟩) rfl fd_48_3 rfl rfl)) ?_; clear hF a hcl hB; intro a hF hcl hB
           refine dr_loadA hF hcl hB 5 rfl (.free rfl) rfl rfl (by kernel_rfl) rfl (fun w hS => (ex_load_blk 0 rfl pl_22 rfl hS rfl rfl)) ?_; clear hF a hcl hB; intro a hF hcl hB
           refine dr_any hF hcl 0 rfl (.free rfl) rfl rfl (by kernel_rfl) (ex_lit0 (c := ints (fun _ => 0)) rfl sl_22 hS) ?_; clear hF hB; rintro v1 w ⟨hS, hv1⟩ a hF hcl
           replace hS : Sat w0 w [.blk g1 [.int .i64 t.vars, .int .i64 t.den, vB, vF, vC], .own v1 1 3 0 (ints (fun _ => 0))] := hS
           refine ⟨⟨(fun _ => hS.sub (.cons_cons _ (.cons _ .slnil))), hS.sub (.cons_cons _ (.cons _ .slnil))⟩, fun hB => ?_⟩
           refine dr_any hF hcl 3 rfl (.free rfl) rfl rfl (by kernel_rfl) (ap_own 1 (r := t.nb) (f := ints (cat 0 (fun _ => 0) t.B)) rfl sl_22 el_3 rfl (by decide) hS rfl rfl rfl (hT.B.below hS.below) (fun _ _ _ => rfl) (by omega) (by omega) (by omega) (by exact cat_ints1 _ _ _)) ?_; clear hF hB; rintro v2 w ⟨hS, hv2⟩ a hF hcl
           replace hS : Sat w0 w [.blk g1 [.int .i64 t.vars, .int .i64 t.den, vB, vF, vC], .own v2 1 3 t.nb (ints (cat 0 (fun _ => 0) t.B))] := hS
           refine ⟨⟨(fun _ => hS.sub (.cons_cons _ (.cons _ .slnil))), hS.sub (.cons_cons _ (.cons _ .slnil))⟩, fun hB => ?_⟩
           refine dr_any hF hcl 6 rfl (.free rfl) rfl rfl (by kernel_rfl) (ap_own 1 (r := t.nb + t.nf) (f := ints (cat t.nb (cat 0 (fun _ => 0) t.B) t.F)) rfl sl_22 el_3 rfl (by decide) hS rfl rfl rfl (hT.F.below hS.below) (fun _ _ _ => rfl) (by omega) (by omega) (by omega) (by exact cat_ints1 _ _ _)) ?_; clear hF hB; rintro v3 w ⟨hS, hv3⟩ a hF hcl
           replace hS : Sat w0 w [.blk g1 [.int .i64 t.vars, .int .i64 t.den, vB, vF, vC], .own v3 1 3 (t.nb + t.nf) (ints (cat t.nb (cat 0 (fun _ => 0) t.B) t.F))] := hS
           refine ⟨⟨(fun _ => hS.sub (.cons_cons _ (.cons _ .slnil))), hS.sub (.cons_cons _ (.cons _ .slnil))⟩, fun hB => ?_⟩
           refine dr_val hF hcl hB 7 rfl (.free rfl) rfl rfl (by kernel_rfl) rfl (fun w => (ex_assign rfl rfl)) ?_; clear hF a hcl hB; intro a hF hcl hB
           refine dr_done (by kernel_rfl) ?_; clear hcl hB
           refine then_normal ?_
           refine cw_seq ?_
           refine wp_region_lit ?_
           refine ls_val hF (.free rfl) rfl rfl (ex_move rfl rfl) ?_; clear hF a; intro a hF
           refine ls_val hF (.free rfl) rfl rfl (ex_move rfl rfl) ?_; clear hF a; intro a hF
           refine ls_val hF (.free rfl) rfl rfl (ex_add (r := t.nb + t.nf) rfl rfl rfl (by omega) (by unfold I64; omega)) ?_; clear hF a; intro a hF
           refine ls_any hF (.free rfl) rfl rfl (ex_make rfl sl_84 el_4 rfl rfl hS rfl rfl (by omega) (by omega) (by omega)) ?_; clear hF; rintro v4 w ⟨hS, hv4⟩ a hF
           replace hS : Sat w0 w [.blk g1 [.int .i64 t.vars, .int .i64 t.den, vB, vF, vC], .own v3 1 3 (t.nb + t.nf) (ints (cat t.nb (cat 0 (fun _ => 0) t.B) t.F)), .own v4 1 4 (t.nb + t.nf) (fun _ => .bool false)] := hS
           refine ls_val hF (.free rfl) rfl rfl (ex_assign rfl rfl) ?_; clear hF a; intro a hF
           refine ls_nil ?_
           refine then_normal ?_
           refine cw_seq ?_
           refine cw_seq ?_
           refine wp_region_lit ?_
           refine ls_val hF (.free rfl) rfl rfl (ex_assign rfl rfl) ?_; clear hF a; intro a hF
           refine ls_nil ?_
           refine then_normal ?_
           refine wp_block ?_
           refine cw_loop (fun mm a w => ∃ (cS : Int → Value) (q : Int), mm = ((t.nb + t.nf - q).toNat) ∧ (0 ≤ q) ∧ (q ≤ t.nb + t.nf) ∧ (∀ k, 0 ≤ k → k < t.nb + t.nf → cS k = B (∃ j, 0 ≤ j ∧ j < q ∧ (cat t.nb (cat 0 (fun _ => 0) t.B) t.F) j = k)) ∧ (∀ k, 0 ≤ k → k < q → 0 ≤ (cat t.nb (cat 0 (fun _ => 0) t.B) t.F) k ∧ (cat t.nb (cat 0 (fun _ => 0) t.B) t.F) k < t.nb + t.nf) ∧ (∀ k j, 0 ≤ k → k < q → 0 ≤ j → j < q → (cat t.nb (cat 0 (fun _ => 0) t.B) t.F) k = (cat t.nb (cat 0 (fun _ => 0) t.B) t.F) j → k = j) ∧ Fr a 121 [(3, .int .i64 t.nb), (4, .int .i64 t.nf), (6, v3), (7, v4), (8, .int .i64 q)] ∧ Sat w0 w [.blk g1 [.int .i64 t.vars, .int .i64 t.den, vB, vF, vC], .own v3 1 3 (t.nb + t.nf) (ints (cat t.nb (cat 0 (fun _ => 0) t.B) t.F)), .own v4 1 4 (t.nb + t.nf) cS]) ?_ ?_ (m := ((t.nb + t.nf - 0).toNat))
           ·
            refine ⟨(fun _ => .bool false), 0, rfl, (by omega), (by omega), ?_, ?_, ?_, (hF.pick (hF.pick (hF.pick (hF.pick (hF.pick hF.nil 8 rfl) 7 rfl) 6 rfl) 4 rfl) 3 rfl), hS⟩
            ·
             intro k k0 k1; exact (B_false (by rintro ⟨j, j0, j1, _⟩; omega)).symm
            ·
             intro k k0 k1; omega
            ·
             intro k j k0 k1; omega
           ·
            clear hF hS a w
            rintro mm a w ⟨cS, q, rfl, q0, q1, hcS, hrg, hin, hF, hS⟩
            refine cw_seq ?_
            refine cw_seq ?_
            refine wp_region_lit ?_
            refine ls_val hF (.free rfl) rfl rfl (ex_move rfl rfl) ?_; clear hF a; intro a hF
            refine ls_val hF (.free rfl) rfl rfl (ex_move rfl rfl) ?_; clear hF a; intro a hF
            refine ls_val hF (.free rfl) rfl rfl (ex_len rfl sl_22 rfl hv3) ?_; clear hF a; intro a hF
            refine ls_val hF (.free rfl) rfl rfl (ex_lss rfl rfl rfl) ?_; clear hF a; intro a hF
            refine ls_nil ?_
            refine then_normal ?_
            refine cw_if hF rfl (fun hc => ?_) (fun hc => ?_)
            ·
             refine wp_skip ?_
             refine then_normal ?_
             refine cw_seq ?_
             refine wp_block ?_
             refine cw_seq ?_
             refine cw_seq ?_
             refine wp_region_lit ?_
             refine ls_val hF (.free rfl) rfl rfl (ex_move rfl rfl) ?_; clear hF a; intro a hF
             refine ls_val hF (.free rfl) rfl rfl (ex_move rfl rfl) ?_; clear hF a; intro a hF
             refine ls_val hF (.free rfl) rfl rfl (ex_index (k := q) rfl sl_22 rfl rfl hv3 (by omega) (by omega) (by omega)) ?_; clear hF a; intro a hF
             refine ls_val hF (.free rfl) rfl rfl (ex_load_row (u := .int .i64 ((cat t.nb (cat 0 (fun _ => 0) t.B) t.F) q)) rfl pl_3 rfl (hS.rowN 1 rfl) (by omega) (by omega) rfl) ?_; clear hF a; intro a hF
             refine ls_val hF (.free rfl) rfl rfl (ex_lss rfl rfl rfl) ?_; clear hF a; intro a hF
             refine ls_val hF (.free rfl) rfl rfl (ex_move rfl rfl) ?_; clear hF a; intro a hF
             refine by_slot hF (d := 96) rfl ?_ ?_ <;> clear hF <;> intro hc hF
             ·
              refine ls_off hF (.on rfl rfl rfl rfl rfl) rfl rfl ?_; clear hF a; intro a hF
              refine ls_off hF (.on rfl rfl rfl rfl rfl) rfl rfl ?_; clear hF a; intro a hF
              refine ls_off hF (.on rfl rfl rfl rfl rfl) rfl rfl ?_; clear hF a; intro a hF
              refine ls_off hF (.on rfl rfl rfl rfl rfl) rfl rfl ?_; clear hF a; intro a hF
              refine ls_off hF (.on rfl rfl rfl rfl rfl) rfl rfl ?_; clear hF a; intro a hF
              refine ls_off hF (.on rfl rfl rfl rfl rfl) rfl rfl ?_; clear hF a; intro a hF
              refine ls_off hF (.on rfl rfl rfl rfl rfl) rfl rfl ?_; clear hF a; intro a hF
              refine ls_off hF (.on rfl rfl rfl rfl rfl) rfl rfl ?_; clear hF a; intro a hF
              refine ls_val hF (.free rfl) rfl rfl (ex_pick_t rfl rfl rfl) ?_; clear hF a; intro a hF
              refine ls_val hF (.free rfl) rfl rfl (ex_move rfl rfl) ?_; clear hF a; intro a hF
              refine ls_off hF (.on rfl rfl rfl rfl rfl) rfl rfl ?_; clear hF a; intro a hF
              refine ls_off hF (.on rfl rfl rfl rfl rfl) rfl rfl ?_; clear hF a; intro a hF
              refine ls_off hF (.on rfl rfl rfl rfl rfl) rfl rfl ?_; clear hF a; intro a hF
              refine ls_off hF (.on rfl rfl rfl rfl rfl) rfl rfl ?_; clear hF a; intro a hF
              refine ls_off hF (.on rfl rfl rfl rfl rfl) rfl rfl ?_; clear hF a; intro a hF
              refine ls_off hF (.on rfl rfl rfl rfl rfl) rfl rfl ?_; clear hF a; intro a hF
              refine ls_off hF (.on rfl rfl rfl rfl rfl) rfl rfl ?_; clear hF a; intro a hF
              refine ls_val hF (.free rfl) rfl rfl (ex_pick_t rfl rfl rfl) ?_; clear hF a; intro a hF
              refine ls_nil ?_
              refine then_normal ?_
              refine cw_t hF rfl ?_
              refine cw_seq ?_
              refine wp_region_lit ?_
              refine ls_val hF (.free rfl) rfl rfl (ex_assign rfl rfl) ?_; clear hF a; intro a hF
              refine ls_nil ?_
              refine then_normal ?_
              refine wp_ret ?_
              refine then_ret (inb_ret (then_ret (then_ret (inb_ret (then_ret ((fin1 hF rfl rfl ⟨_, rfl, ?_⟩)))))))
              exact ⟨false_B (by
               intro hp; have b1 := hp.n1; have b2 := hp.n2; have b3 := hp.m2; have b4 := hp.v; have b5 := hp.d1; have b6 := hp.d2; have b7 := hp.c; have b8 := all_perm hp (by omega)
               first
               | omega
               | (have hr := (hp.rows i h0 (by omega)).1; omega)
               | exact absurd (fun j j0 j1 => (hp.rows i h0 (by omega)).2 j j0 j1) ‹¬ (∀ k, 0 ≤ k → k < t.ln i → -1073741824 ≤ t.C i k ∧ t.C i k ≤ 1073741824)›
               | (have := b8.1 q q0 (by omega); omega)
               | (obtain ⟨j, j0, j1, e⟩ := ‹∃ j, 0 ≤ j ∧ j < q ∧ (cat t.nb (cat 0 (fun _ => 0) t.B) t.F) j = (cat t.nb (cat 0 (fun _ => 0) t.B) t.F) q›; have := b8.2 j q j0 (by omega) q0 (by omega) e; omega)), hS.sub (.cons _ (.cons _ (.cons _ .slnil)))⟩
             ·
              refine ls_val hF (.on rfl rfl rfl rfl rfl) rfl rfl (ex_move rfl rfl) ?_; clear hF a; intro a hF
              refine ls_val hF (.on rfl rfl rfl rfl rfl) rfl rfl (ex_move rfl rfl) ?_; clear hF a; intro a hF
              refine ls_val hF (.on rfl rfl rfl rfl rfl) rfl rfl (ex_index (k := q) rfl sl_22 rfl rfl hv3 (by omega) (by omega) (by omega)) ?_; clear hF a; intro a hF
              refine ls_val hF (.on rfl rfl rfl rfl rfl) rfl rfl (ex_load_row (u := .int .i64 ((cat t.nb (cat 0 (fun _ => 0) t.B) t.F) q)) rfl pl_3 rfl (hS.rowN 1 rfl) (by omega) (by omega) rfl) ?_; clear hF a; intro a hF
              refine ls_val hF (.on rfl rfl rfl rfl rfl) rfl rfl (ex_move rfl rfl) ?_; clear hF a; intro a hF
              refine ls_val hF (.on rfl rfl rfl rfl rfl) rfl rfl (ex_move rfl rfl) ?_; clear hF a; intro a hF
              refine ls_val hF (.on rfl rfl rfl rfl rfl) rfl rfl (ex_add (r := t.nb + t.nf) rfl rfl rfl (by omega) (by unfold I64; omega)) ?_; clear hF a; intro a hF
              refine ls_val hF (.on rfl rfl rfl rfl rfl) rfl rfl (ex_geq rfl rfl rfl) ?_; clear hF a; intro a hF
              refine ls_val hF (.free rfl) rfl rfl (ex_pick_f rfl rfl rfl) ?_; clear hF a; intro a hF
              refine ls_val hF (.free rfl) rfl rfl (ex_move rfl rfl) ?_; clear hF a; intro a hF
              refine by_slot hF (d := 106) rfl ?_ ?_ <;> clear hF <;> intro hc hF
              ·
               refine ls_off hF (.on rfl rfl rfl rfl rfl) rfl rfl ?_; clear hF a; intro a hF
               refine ls_off hF (.on rfl rfl rfl rfl rfl) rfl rfl ?_; clear hF a; intro a hF
               refine ls_off hF (.on rfl rfl rfl rfl rfl) rfl rfl ?_; clear hF a; intro a hF
               refine ls_off hF (.on rfl rfl rfl rfl rfl) rfl rfl ?_; clear hF a; intro a hF
               refine ls_off hF (.on rfl rfl rfl rfl rfl) rfl rfl ?_; clear hF a; intro a hF
               refine ls_off hF (.on rfl rfl rfl rfl rfl) rfl rfl ?_; clear hF a; intro a hF
               refine ls_off hF (.on rfl rfl rfl rfl rfl) rfl rfl ?_; clear hF a; intro a hF
               refine ls_val hF (.free rfl) rfl rfl (ex_pick_t rfl rfl rfl) ?_; clear hF a; intro a hF
               refine ls_nil ?_
               refine then_normal ?_
               refine cw_t hF rfl ?_
               refine cw_seq ?_
               refine wp_region_lit ?_
               refine ls_val hF (.free rfl) rfl rfl (ex_assign rfl rfl) ?_; clear hF a; intro a hF
               refine ls_nil ?_
               refine then_normal ?_
               refine wp_ret ?_
               refine then_ret (inb_ret (then_ret (then_ret (inb_ret (then_ret ((fin1 hF rfl rfl ⟨_, rfl, ?_⟩)))))))
               exact ⟨false_B (by
                intro hp; have b1 := hp.n1; have b2 := hp.n2; have b3 := hp.m2; have b4 := hp.v; have b5 := hp.d1; have b6 := hp.d2; have b7 := hp.c; have b8 := all_perm hp (by omega)
                first
                | omega
                | (have hr := (hp.rows i h0 (by omega)).1; omega)
                | exact absurd (fun j j0 j1 => (hp.rows i h0 (by omega)).2 j j0 j1) ‹¬ (∀ k, 0 ≤ k → k < t.ln i → -1073741824 ≤ t.C i k ∧ t.C i k ≤ 1073741824)›
                | (have := b8.1 q q0 (by omega); omega)
                | (obtain ⟨j, j0, j1, e⟩ := ‹∃ j, 0 ≤ j ∧ j < q ∧ (cat t.nb (cat 0 (fun _ => 0) t.B) t.F) j = (cat t.nb (cat 0 (fun _ => 0) t.B) t.F) q›; have := b8.2 j q j0 (by omega) q0 (by omega) e; omega)), hS.sub (.cons _ (.cons _ (.cons _ .slnil)))⟩
              ·
               refine ls_val hF (.on rfl rfl rfl rfl rfl) rfl rfl (ex_move rfl rfl) ?_; clear hF a; intro a hF
               refine ls_val hF (.on rfl rfl rfl rfl rfl) rfl rfl (ex_move rfl rfl) ?_; clear hF a; intro a hF
               refine ls_val hF (.on rfl rfl rfl rfl rfl) rfl rfl (ex_move rfl rfl) ?_; clear hF a; intro a hF
               refine ls_val hF (.on rfl rfl rfl rfl rfl) rfl rfl (ex_index (k := q) rfl sl_22 rfl rfl hv3 (by omega) (by omega) (by omega)) ?_; clear hF a; intro a hF
               refine ls_val hF (.on rfl rfl rfl rfl rfl) rfl rfl (ex_load_row (u := .int .i64 ((cat t.nb (cat 0 (fun _ => 0) t.B) t.F) q)) rfl pl_3 rfl (hS.rowN 1 rfl) (by omega) (by omega) rfl) ?_; clear hF a; intro a hF
               refine ls_val hF (.on rfl rfl rfl rfl rfl) rfl rfl (ex_index (k := (cat t.nb (cat 0 (fun _ => 0) t.B) t.F) q) rfl sl_84 rfl rfl hv4 (by omega) (by omega) (by omega)) ?_; clear hF a; intro a hF
               refine ls_val hF (.on rfl rfl rfl rfl rfl) rfl rfl (ex_load_row (u := B (∃ j, 0 ≤ j ∧ j < q ∧ (cat t.nb (cat 0 (fun _ => 0) t.B) t.F) j = (cat t.nb (cat 0 (fun _ => 0) t.B) t.F) q)) rfl pl_4 rfl (hS.rowN 2 rfl) (by omega) (by omega) (hcS _ (by omega) (by omega))) ?_; clear hF a; intro a hF
               refine ls_val hF (.free rfl) rfl rfl (ex_pick_f rfl rfl rfl) ?_; clear hF a; intro a hF
               refine ls_nil ?_
               refine then_normal ?_
               refine cw_if hF rfl (fun hc => ?_) (fun hc => ?_)
               ·
                refine cw_seq ?_
                refine wp_region_lit ?_
                refine ls_val hF (.free rfl) rfl rfl (ex_assign rfl rfl) ?_; clear hF a; intro a hF
                refine ls_nil ?_
                refine then_normal ?_
                refine wp_ret ?_
                refine then_ret (inb_ret (then_ret (then_ret (inb_ret (then_ret ((fin1 hF rfl rfl ⟨_, rfl, ?_⟩)))))))
                exact ⟨false_B (by
                 intro hp; have b1 := hp.n1; have b2 := hp.n2; have b3 := hp.m2; have b4 := hp.v; have b5 := hp.d1; have b6 := hp.d2; have b7 := hp.c; have b8 := all_perm hp (by omega)
                 first
                 | omega
                 | (have hr := (hp.rows i h0 (by omega)).1; omega)
                 | exact absurd (fun j j0 j1 => (hp.rows i h0 (by omega)).2 j j0 j1) ‹¬ (∀ k, 0 ≤ k → k < t.ln i → -1073741824 ≤ t.C i k ∧ t.C i k ≤ 1073741824)›
                 | (have := b8.1 q q0 (by omega); omega)
                 | (obtain ⟨j, j0, j1, e⟩ := ‹∃ j, 0 ≤ j ∧ j < q ∧ (cat t.nb (cat 0 (fun _ => 0) t.B) t.F) j = (cat t.nb (cat 0 (fun _ => 0) t.B) t.F) q›; have := b8.2 j q j0 (by omega) q0 (by omega) e; omega)), hS.sub (.cons _ (.cons _ (.cons _ .slnil)))⟩
               ·
                refine wp_skip ?_
                refine then_normal ?_
                refine wp_region_lit ?_
                refine ls_val hF (.free rfl) rfl rfl (ex_move rfl rfl) ?_; clear hF a; intro a hF
                refine ls_val hF (.free rfl) rfl rfl (ex_move rfl rfl) ?_; clear hF a; intro a hF
                refine ls_val hF (.free rfl) rfl rfl (ex_move rfl rfl) ?_; clear hF a; intro a hF
                refine ls_val hF (.free rfl) rfl rfl (ex_index (k := q) rfl sl_22 rfl rfl hv3 (by omega) (by omega) (by omega)) ?_; clear hF a; intro a hF
                refine ls_val hF (.free rfl) rfl rfl (ex_load_row (u := .int .i64 ((cat t.nb (cat 0 (fun _ => 0) t.B) t.F) q)) rfl pl_3 rfl (hS.rowN 1 rfl) (by omega) (by omega) rfl) ?_; clear hF a; intro a hF
                refine ls_val hF (.free rfl) rfl rfl (ex_index (k := (cat t.nb (cat 0 (fun _ => 0) t.B) t.F) q) rfl sl_84 rfl rfl hv4 (by omega) (by omega) (by omega)) ?_; clear hF a; intro a hF
                refine ls_effx hF (.free rfl) rfl (st_own 2 rfl pl_4 hS rfl rfl rfl rfl (by omega) (by omega) rfl) ?_; clear hS; rintro w hS
                replace hS : Sat w0 w [.blk g1 [.int .i64 t.vars, .int .i64 t.den, vB, vF, vC], .own v3 1 3 (t.nb + t.nf) (ints (cat t.nb (cat 0 (fun _ => 0) t.B) t.F)), .own v4 1 4 (t.nb + t.nf) (upd cS ((cat t.nb (cat 0 (fun _ => 0) t.B) t.F) q) (.bool true))] := hS
                refine ls_nil ?_
                refine inb_normal ?_
                refine then_normal ?_
                refine wp_region_lit ?_
                refine ls_val hF (.free rfl) rfl rfl (ex_move rfl rfl) ?_; clear hF a; intro a hF
                refine ls_val hF (.free rfl) rfl rfl (ex_add (r := q + 1) rfl rfl rfl (by omega) (by unfold I64; omega)) ?_; clear hF a; intro a hF
                refine ls_val hF (.free rfl) rfl rfl (ex_assign rfl rfl) ?_; clear hF a; intro a hF
                refine ls_nil ?_
                refine then_normal ?_
                refine ⟨_, (by omega), upd cS ((cat t.nb (cat 0 (fun _ => 0) t.B) t.F) q) (.bool true), q + 1, rfl, (by omega), (by omega), ?_, ?_, ?_, (hF.pick (hF.pick (hF.pick (hF.pick (hF.pick hF.nil 8 rfl) 7 rfl) 6 rfl) 4 rfl) 3 rfl), hS⟩
                ·
                 intro k k0 k1; by_cases e : k = (cat t.nb (cat 0 (fun _ => 0) t.B) t.F) q
                 · rw [e, upd_self]; exact (B_true ⟨q, q0, by omega, rfl⟩).symm
                 · rw [upd_ne _ _ e, hcS k k0 k1]; exact B_congr ⟨fun ⟨j, j0, j1, h⟩ => ⟨j, j0, by omega, h⟩, fun ⟨j, j0, j1, h⟩ => ⟨j, j0, by rcases Int.lt_or_eq_of_le (show j ≤ q by omega) with hh | hh; exact hh; exact absurd (by rw [← h, hh]) e, h⟩⟩
                ·
                 intro k k0 k1; rcases Int.lt_or_eq_of_le (show k ≤ q by omega) with hk | hk; exact hrg k k0 hk; rw [hk]; omega
                ·
                 have hns : ¬ (∃ j, 0 ≤ j ∧ j < q ∧ (cat t.nb (cat 0 (fun _ => 0) t.B) t.F) j = (cat t.nb (cat 0 (fun _ => 0) t.B) t.F) q) := ‹_›
                 intro k j k0 k1 j0 j1 e; rcases Int.lt_or_eq_of_le (show k ≤ q by omega) with hk | hk <;> rcases Int.lt_or_eq_of_le (show j ≤ q by omega) with hj | hj
                 · exact hin k j k0 hk j0 hj e
                 · exact absurd ⟨k, k0, hk, by rw [e, hj]⟩ hns
                 · exact absurd ⟨j, j0, hj, by rw [← e, hk]⟩ hns
                 · omega
            ·
             refine wp_exit ?_
             refine then_exit ?_
             refine then_exit ?_
             refine inb_hit ?_
             refine then_normal ?_
             refine cw_seq ?_
             refine wp_region_lit ?_
             refine ls_val hF (.free rfl) rfl rfl (ex_assign rfl rfl) ?_; clear hF a; intro a hF
             refine ls_nil ?_
             refine then_normal ?_
             refine wp_ret ?_
             refine (fin1 hF rfl rfl ⟨_, rfl, ?_⟩)
             obtain rfl : q = t.nb + t.nf := by omega
             have hpp : PermF (cat t.nb (cat 0 (fun _ => 0) t.B) t.F) (t.nb + t.nf) := ⟨hrg, hin⟩
             exact ⟨true_B ⟨by omega, by omega, by omega, by omega, by omega, by omega, by omega, perm_swap (by omega) (by omega) (hpp.congr fun k k0 _ => all_cat t k0), fun k k0 k1 => hall k k0 (by omega)⟩, hS.sub (.cons _ (.cons _ (.cons _ .slnil)))⟩

end Go.Proofs.Ytakgjpmhbfieeaa
