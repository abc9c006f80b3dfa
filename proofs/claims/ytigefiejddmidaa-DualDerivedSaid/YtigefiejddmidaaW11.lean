/- The walks of same and of the statement DualDerive. -/
import Derived.Test.YtigefiejddmidaaW10
import Derived.Test.YtigefiejddmidaaW6
namespace Go.Proofs.Ytigefiejddmidaa
open Go Go.RowKit Go.Proofs.Gw
set_option linter.unusedVariables false

set_option maxRecDepth 20000 in
theorem c_same28 {v1 v2 : Value} {n1 n2 : Int} {f1 f2 : Int → Int} (w0 : World) (x1 : IAt w0 v1 n1 f1) (x2 : IAt w0 v2 n2 f2) :
    Calls Try.prog 35 [v1, v2].toArray w0 fun e w => ∃ v, e = .returned v ∧ v = B (n1 = n2 ∧ ∀ k, 0 ≤ k → k < n1 → f1 k = f2 k) ∧ Sat w0 w [] := by
  have hn1 := x1.n0; have hn2 := x2.n0; have hn3 := x1.n1
  refine enterS (vs := [v1, v2]) Try.func35 rfl Try.ntmps35 rfl ?_
  intro a w hS hF
  refine cw_seq ?_
  refine wp_region_lit ?_
  refine ls_val hF (.free rfl) rfl rfl (ex_assign rfl rfl) ?_; clear hF a; intro a hF
  refine ls_nil ?_
  refine then_normal ?_
  refine cw_seq ?_
  refine cw_seq ?_
  refine wp_region_lit ?_
  refine ls_val hF (.free rfl) rfl rfl (ex_move rfl rfl) ?_; clear hF a; intro a hF
  refine ls_val hF (.free rfl) rfl rfl (ex_len rfl sl_22 rfl x1.row.slh) ?_; clear hF a; intro a hF
  refine ls_val hF (.free rfl) rfl rfl (ex_move rfl rfl) ?_; clear hF a; intro a hF
  refine ls_val hF (.free rfl) rfl rfl (ex_len rfl sl_22 rfl x2.row.slh) ?_; clear hF a; intro a hF
  refine ls_val hF (.free rfl) rfl rfl (ex_neq rfl rfl rfl) ?_; clear hF a; intro a hF
  refine ls_nil ?_
  refine then_normal ?_
  refine cw_if hF rfl (fun hc => ?_) (fun hc => ?_)
  ·
   refine cw_seq ?_
   refine wp_region_lit ?_
   refine ls_val hF (.free rfl) rfl rfl (ex_assign rfl rfl) ?_; clear hF a; intro a hF
   refine ls_nil ?_
   refine then_normal ?_
   refine wp_ret ?_
   refine then_ret ((fin1 hF rfl rfl ⟨_, rfl, ?_⟩))
   exact ⟨false_B (by rintro ⟨h1, h2⟩; first | omega | exact absurd (h2 i (by omega) (by omega)) ‹_›), hS⟩
  ·
   refine wp_skip ?_
   refine then_normal ?_
   refine cw_seq ?_
   refine cw_seq ?_
   refine wp_region_lit ?_
   refine ls_val hF (.free rfl) rfl rfl (ex_assign rfl rfl) ?_; clear hF a; intro a hF
   refine ls_nil ?_
   refine then_normal ?_
   refine wp_block ?_
   refine cw_loop (fun mm a w => ∃ (i : Int), mm = ((n1 - i).toNat) ∧ (0 ≤ i) ∧ (i ≤ n1) ∧ (∀ k, 0 ≤ k → k < i → f1 k = f2 k) ∧ Fr a 26 [(0, v1), (1, v2), (5, .int .i64 i)] ∧ Sat w0 w []) ?_ ?_ (m := ((n1 - 0).toNat))
   ·
    refine ⟨0, rfl, (by omega), (by omega), ?_, (hF.pick (hF.pick (hF.pick hF.nil 5 rfl) 1 rfl) 0 rfl), hS⟩
    ·
     intro k h0 h1; omega
   ·
    clear hF hS a w
    rintro mm a w ⟨i, rfl, h0, h1, hall, hF, hS⟩
    refine cw_seq ?_
    refine cw_seq ?_
    refine wp_region_lit ?_
    refine ls_val hF (.free rfl) rfl rfl (ex_move rfl rfl) ?_; clear hF a; intro a hF
    refine ls_val hF (.free rfl) rfl rfl (ex_move rfl rfl) ?_; clear hF a; intro a hF
    refine ls_val hF (.free rfl) rfl rfl (ex_len rfl sl_22 rfl x1.row.slh) ?_; clear hF a; intro a hF
    refine ls_val hF (.free rfl) rfl rfl (ex_lss rfl rfl rfl) ?_; clear hF a; intro a hF
    refine ls_nil ?_
    refine then_normal ?_
    refine cw_if hF rfl (fun hc => ?_) (fun hc => ?_)
    ·
     refine wp_skip ?_
     refine then_normal ?_
     refine cw_seq ?_
     refine wp_block ?_
     refine cw_seq ?_
     refine dr_sat (m0 := []) 1000 mx_ hS .slnil rfl ?_; clear hS; intro w hS hcl hB
     refine dr_val hF hcl hB 0 rfl (.free rfl) rfl rfl (by kernel_rfl) rfl (fun w => (ex_move rfl rfl)) ?_; clear hF a hcl hB; intro a hF hcl hB
     refine dr_val hF hcl hB 1 rfl (.free rfl) rfl rfl (by kernel_rfl) rfl (fun w => (ex_move rfl rfl)) ?_; clear hF a hcl hB; intro a hF hcl hB
     refine dr_val hF hcl hB 2 rfl (.free rfl) rfl rfl (by kernel_rfl) rfl (fun w => (ex_index (k := i) rfl sl_22 rfl rfl x1.row.slh (by omega) (by omega) (by omega))) ?_; clear hF a hcl hB; intro a hF hcl hB
     refine dr_load hF hcl hB 3 rfl (.free rfl) rfl rfl (by kernel_rfl) rfl (by kernel_rfl) (fun w hS => (ex_load_row (u := .int .i64 (f1 i)) rfl pl_3 rfl (x1.row.below hS.below) (by omega) (by omega) rfl)) ?_; clear hF a hcl hB; intro a hF hcl hB
     have hbv := x1.i i
     refine dr_val hF hcl hB 4 rfl (.free rfl) rfl rfl (by kernel_rfl) rfl (fun w => (ex_move rfl rfl)) ?_; clear hF a hcl hB; intro a hF hcl hB
     refine dr_val hF hcl hB 5 rfl (.free rfl) rfl rfl (by kernel_rfl) rfl (fun w => (ex_move rfl rfl)) ?_; clear hF a hcl hB; intro a hF hcl hB
     refine dr_val hF hcl hB 6 rfl (.free rfl) rfl rfl (by kernel_rfl) rfl (fun w => (ex_index (k := i) rfl sl_22 rfl rfl x2.row.slh (by omega) (by omega) (by omega))) ?_; clear hF a hcl hB; intro a hF hcl hB
     refine dr_load hF hcl hB 7 rfl (.free rfl) rfl rfl (by kernel_rfl) rfl (by kernel_rfl) (fun w hS => (ex_load_row (u := .int .i64 (f2 i)) rfl pl_3 rfl (x2.row.below hS.below) (by omega) (by omega) rfl)) ?_; clear hF a hcl hB; intro a hF hcl hB
     have hbv := x2.i i
     refine dr_val hF hcl hB 8 rfl (.free rfl) rfl rfl (by kernel_rfl) rfl (fun w => (ex_neq rfl rfl rfl)) ?_; clear hF a hcl hB; intro a hF hcl hB
     refine dr_done (by kernel_rfl) ?_; clear hcl hB
     refine then_normal ?_
     refine cw_if hF rfl (fun hc => ?_) (fun hc => ?_)
     ·
      refine cw_seq ?_
      refine wp_region_lit ?_
      refine ls_val hF (.free rfl) rfl rfl (ex_assign rfl rfl) ?_; clear hF a; intro a hF
      refine ls_nil ?_
      refine then_normal ?_
      refine wp_ret ?_
      refine inb_ret (then_ret (then_ret (inb_ret (then_ret ((fin1 hF rfl rfl ⟨_, rfl, ?_⟩))))))
      exact ⟨false_B (by rintro ⟨h1, h2⟩; first | omega | exact absurd (h2 i (by omega) (by omega)) ‹_›), hS⟩
     ·
      refine wp_skip ?_
      refine inb_normal ?_
      refine then_normal ?_
      refine wp_region_lit ?_
      refine ls_val hF (.free rfl) rfl rfl (ex_move rfl rfl) ?_; clear hF a; intro a hF
      refine ls_val hF (.free rfl) rfl rfl (ex_add (r := i + 1) rfl rfl rfl (by omega) (by unfold I64; omega)) ?_; clear hF a; intro a hF
      refine ls_val hF (.free rfl) rfl rfl (ex_assign rfl rfl) ?_; clear hF a; intro a hF
      refine ls_nil ?_
      refine then_normal ?_
      refine ⟨_, (by omega), i + 1, rfl, (by omega), (by omega), ?_, (hF.pick (hF.pick (hF.pick hF.nil 5 rfl) 1 rfl) 0 rfl), hS⟩
      ·
       intro k h0' h1'; rcases Int.lt_or_eq_of_le (show k ≤ i by omega) with hk | hk; exact hall k h0' hk; rw [hk]; omega
    ·
     refine wp_exit ?_
     refine then_exit ?_
     refine then_exit ?_
     refine inb_hit ?_
     refine then_normal ?_
     refine cw_seq ?_
     refine wp_region_lit ?_
     refine ls_val hF (.free rfl) rfl rfl (ex_assign rfl rfl) ?_; clear hF a; intro a hF
     refine ls_nil ?_
     refine then_normal ?_
     refine wp_ret ?_
     refine (fin1 hF rfl rfl ⟨_, rfl, ?_⟩)
     exact ⟨true_B (by exact ⟨by omega, fun k k0 k1 => hall k k0 (by omega)⟩), hS⟩

set_option maxRecDepth 20000 in
theorem c_same32 {v1 v2 : Value} {n1 n2 : Int} {f1 f2 : Int → Int} {q1 q2 : Int} (w0 : World) (x1 : IAt w0 v1 n1 f1) (x2 : IAt w0 v2 n2 f2) :
    Calls Try.prog 31 [.agg #[v1, .int .i64 q1], .agg #[v2, .int .i64 q2]].toArray w0 fun e w => ∃ v, e = .returned v ∧ v = B (q1 = q2 ∧ n1 = n2 ∧ ∀ k, 0 ≤ k → k < n1 → f1 k = f2 k) ∧ Sat w0 w [] := by
  refine enterS (vs := [.agg #[v1, .int .i64 q1], .agg #[v2, .int .i64 q2]]) Try.func31 rfl Try.ntmps31 rfl ?_
  intro a w hS hF
  refine cw_seq ?_
  refine wp_region_lit ?_
  refine ls_any hF (.free rfl) rfl rfl (ex_box (cs := [v1, .int .i64 q1]) rfl hS rfl rfl) ?_; clear hF; rintro _ w ⟨g1, rfl, hS⟩ a hF
  replace hS : Sat w0 w [.blk g1 [v1, .int .i64 q1]] := hS
  refine ls_any hF (.free rfl) rfl rfl (ex_box (cs := [v2, .int .i64 q2]) rfl hS rfl rfl) ?_; clear hF; rintro _ w ⟨g2, rfl, hS⟩ a hF
  replace hS : Sat w0 w [.blk g1 [v1, .int .i64 q1], .blk g2 [v2, .int .i64 q2]] := hS
  refine ls_val hF (.free rfl) rfl rfl (ex_assign rfl rfl) ?_; clear hF a; intro a hF
  refine ls_nil ?_
  refine then_normal ?_
  refine cw_seq ?_
  refine wp_region_lit ?_
  refine ls_val hF (.free rfl) rfl rfl (ex_field (b := ⟨g1, 1, none⟩) rfl fd_26_1 rfl rfl) ?_; clear hF a; intro a hF
  refine ls_val hF (.free rfl) rfl rfl (ex_load_blk 0 rfl pl_3 rfl hS rfl rfl) ?_; clear hF a; intro a hF
  refine ls_val hF (.free rfl) rfl rfl (ex_field (b := ⟨g2, 1, none⟩) rfl fd_26_1 rfl rfl) ?_; clear hF a; intro a hF
  refine ls_val hF (.free rfl) rfl rfl (ex_load_blk 1 rfl pl_3 rfl hS rfl rfl) ?_; clear hF a; intro a hF
  refine ls_val hF (.free rfl) rfl rfl (ex_eql rfl rfl rfl) ?_; clear hF a; intro a hF
  refine ls_val hF (.free rfl) rfl rfl (ex_move rfl rfl) ?_; clear hF a; intro a hF
  refine by_slot hF (d := 10) rfl ?_ ?_ <;> clear hF <;> intro hc hF
  ·
   refine ls_val hF (.on rfl rfl rfl rfl rfl) rfl rfl (ex_field (b := ⟨g1, 0, none⟩) rfl fd_26_0 rfl rfl) ?_; clear hF a; intro a hF
   refine ls_val hF (.on rfl rfl rfl rfl rfl) rfl rfl (ex_load_blk 0 rfl pl_22 rfl hS rfl rfl) ?_; clear hF a; intro a hF
   refine ls_val hF (.on rfl rfl rfl rfl rfl) rfl rfl (ex_field (b := ⟨g2, 0, none⟩) rfl fd_26_0 rfl rfl) ?_; clear hF a; intro a hF
   refine ls_val hF (.on rfl rfl rfl rfl rfl) rfl rfl (ex_load_blk 1 rfl pl_22 rfl hS rfl rfl) ?_; clear hF a; intro a hF
   refine ls_call hF (.on rfl rfl rfl rfl rfl) rfl rfl (ex_call0 rfl rfl cl_35 (args_cons rfl (args_cons rfl args0))) (c_same28 w (x1.below hS.below) (x2.below hS.below)) ?_; clear hF; rintro _ w ⟨rfl, hS'⟩ a hF
   replace hS : Sat w0 w [.blk g1 [v1, .int .i64 q1], .blk g2 [v2, .int .i64 q2]] := hS.comp hS'; clear hS'
   refine ls_val hF (.free rfl) rfl rfl (ex_pick_t rfl rfl rfl) ?_; clear hF a; intro a hF
   refine ls_val hF (.free rfl) rfl rfl (ex_assign rfl rfl) ?_; clear hF a; intro a hF
   refine ls_nil ?_
   refine then_normal ?_
   refine wp_ret ?_
   refine (fin1 hF rfl rfl ⟨_, rfl, ?_⟩)
   exact ⟨B_congr (by exact ⟨fun hh => ⟨by omega, hh⟩, fun hh => hh.2⟩), hS.sub (.cons _ (.cons _ .slnil))⟩
  ·
   refine ls_off hF (.on rfl rfl rfl rfl rfl) rfl rfl ?_; clear hF a; intro a hF
   refine ls_off hF (.on rfl rfl rfl rfl rfl) rfl rfl ?_; clear hF a; intro a hF
   refine ls_off hF (.on rfl rfl rfl rfl rfl) rfl rfl ?_; clear hF a; intro a hF
   refine ls_off hF (.on rfl rfl rfl rfl rfl) rfl rfl ?_; clear hF a; intro a hF
   refine ls_off hF (.on rfl rfl rfl rfl rfl) rfl rfl ?_; clear hF a; intro a hF
   refine ls_val hF (.free rfl) rfl rfl (ex_pick_f rfl rfl rfl) ?_; clear hF a; intro a hF
   refine ls_val hF (.free rfl) rfl rfl (ex_assign rfl rfl) ?_; clear hF a; intro a hF
   refine ls_nil ?_
   refine then_normal ?_
   refine wp_ret ?_
   refine (fin1 hF rfl rfl ⟨_, rfl, ?_⟩)
   exact ⟨false_B (by rintro ⟨h1, h2⟩; omega), hS.sub (.cons _ (.cons _ .slnil))⟩

set_option maxRecDepth 20000 in
theorem c_same {v1 v2 : Value} {n1 n2 : Int} {f1 f2 : Int → Int} {q1 q2 : Int} (w0 : World) (x1 : IAt w0 v1 n1 f1) (x2 : IAt w0 v2 n2 f2) (hs : q1 = q2 ∧ n1 = n2 ∧ ∀ k, 0 ≤ k → k < n1 → f1 k = f2 k) :
    Calls Try.prog 22 [.agg #[v1, .int .i64 q1], .agg #[v2, .int .i64 q2]].toArray w0 fun e w => ∃ v, e = .returned v ∧ v = .bool true ∧ Sat w0 w [] := by
  refine enterS (vs := [.agg #[v1, .int .i64 q1], .agg #[v2, .int .i64 q2]]) Try.func22 rfl Try.ntmps22 rfl ?_
  intro a w hS hF
  refine cw_seq ?_
  refine wp_region_lit ?_
  refine ls_any hF (.free rfl) rfl rfl (ex_box (cs := [v1, .int .i64 q1]) rfl hS rfl rfl) ?_; clear hF; rintro _ w ⟨g1, rfl, hS⟩ a hF
  replace hS : Sat w0 w [.blk g1 [v1, .int .i64 q1]] := hS
  refine ls_any hF (.free rfl) rfl rfl (ex_box (cs := [v2, .int .i64 q2]) rfl hS rfl rfl) ?_; clear hF; rintro _ w ⟨g2, rfl, hS⟩ a hF
  replace hS : Sat w0 w [.blk g1 [v1, .int .i64 q1], .blk g2 [v2, .int .i64 q2]] := hS
  refine ls_val hF (.free rfl) rfl rfl (ex_assign rfl rfl) ?_; clear hF a; intro a hF
  refine ls_nil ?_
  refine then_normal ?_
  refine cw_seq ?_
  refine wp_region_lit ?_
  refine ls_val hF (.free rfl) rfl rfl (ex_loads_blk 0 rfl st_34 rfl hS rfl rfl) ?_; clear hF a; intro a hF
  refine ls_val hF (.free rfl) rfl rfl (ex_loads_blk 1 rfl st_26 rfl hS rfl rfl) ?_; clear hF a; intro a hF
  refine ls_call hF (.free rfl) rfl rfl (ex_call0 rfl rfl cl_31 (args_cons rfl (args_cons rfl args0))) (c_same32 w (x1.below hS.below) (x2.below hS.below) (q1 := q1) (q2 := q2)) ?_; clear hF; rintro _ w ⟨rfl, hS'⟩ a hF
  replace hS : Sat w0 w [.blk g1 [v1, .int .i64 q1], .blk g2 [v2, .int .i64 q2]] := hS.comp hS'; clear hS'
  refine ls_val hF (.free rfl) rfl rfl (ex_assign rfl rfl) ?_; clear hF a; intro a hF
  refine ls_nil ?_
  refine then_normal ?_
  refine wp_ret ?_
  refine (fin1 hF rfl rfl ⟨_, rfl, ?_⟩)
  exact ⟨(true_B hs).symm, hS.sub (.cons _ (.cons _ .slnil))⟩

set_option maxRecDepth 20000 in
theorem law_derive {vy vz : Value} {n nb q s : Int} {y z : Int → Int} {r : Int} (w0 : World) (h : IAt w0 vy n y) (hq : -9223372036854775808 ≤ q ∧ q ≤ 9223372036854775807) (h2 : IAt w0 vz nb z) (hs : -9223372036854775808 ≤ s ∧ s ≤ 9223372036854775807) (hr : -9223372036854775808 ≤ r ∧ r ≤ 9223372036854775807) :
    Calls Try.prog 6 [.agg #[vy, .int .i64 q], .agg #[vz, .int .i64 s], .int .i64 r].toArray w0 fun e w => ∃ v, e = .returned v ∧ v = .bool true ∧ Sat w0 w [] := by
  have hn := h.n0; have hn2 := h2.n0
  refine enterS (vs := [.agg #[vy, .int .i64 q], .agg #[vz, .int .i64 s], .int .i64 r]) Try.func6 rfl Try.ntmps6 rfl ?_
  intro a w hS hF
  refine cw_seq ?_
  refine wp_region_lit ?_
  refine ls_any hF (.free rfl) rfl rfl (ex_box (cs := [vy, .int .i64 q]) rfl hS rfl rfl) ?_; clear hF; rintro _ w ⟨g1, rfl, hS⟩ a hF
  replace hS : Sat w0 w [.blk g1 [vy, .int .i64 q]] := hS
  refine ls_any hF (.free rfl) rfl rfl (ex_box (cs := [vz, .int .i64 s]) rfl hS rfl rfl) ?_; clear hF; rintro _ w ⟨g2, rfl, hS⟩ a hF
  replace hS : Sat w0 w [.blk g1 [vy, .int .i64 q], .blk g2 [vz, .int .i64 s]] := hS
  refine ls_val hF (.free rfl) rfl rfl (ex_assign rfl rfl) ?_; clear hF a; intro a hF
  refine ls_nil ?_
  refine then_normal ?_
  refine cw_seq ?_
  refine cw_seq ?_
  refine wp_region_lit ?_
  refine ls_call hF (.free rfl) rfl rfl (ex_call0 rfl rfl cl_8 args0) (c_awake w) ?_; clear hF; rintro _ w ⟨rfl, hS'⟩ a hF
  replace hS : Sat w0 w [.blk g1 [vy, .int .i64 q], .blk g2 [vz, .int .i64 s]] := hS.comp hS'; clear hS'
  refine ls_val hF (.free rfl) rfl rfl (ex_not_t rfl rfl) ?_; clear hF a; intro a hF
  refine ls_val hF (.free rfl) rfl rfl (ex_move rfl rfl) ?_; clear hF a; intro a hF
  refine ls_val hF (.on rfl rfl rfl rfl rfl) rfl rfl (ex_loads_blk 0 rfl st_26 rfl hS rfl rfl) ?_; clear hF a; intro a hF
  refine ls_call hF (.on rfl rfl rfl rfl rfl) rfl rfl (ex_call0 rfl rfl cl_10 (args_cons rfl args0)) (c_few32 w (q := q) (h.below hS.below)) ?_; clear hF; rintro _ w ⟨rfl, hS'⟩ a hF
  replace hS : Sat w0 w [.blk g1 [vy, .int .i64 q], .blk g2 [vz, .int .i64 s]] := hS.comp hS'; clear hS'
  refine ls_val hF (.on rfl rfl rfl rfl rfl) rfl rfl (ex_not rfl rfl) ?_; clear hF a; intro a hF
  refine ls_val hF (.free rfl) rfl rfl (ex_pick_f rfl rfl rfl) ?_; clear hF a; intro a hF
  refine ls_val hF (.free rfl) rfl rfl (ex_move rfl rfl) ?_; clear hF a; intro a hF
  refine by_slot hF (d := 22) rfl ?_ ?_ <;> clear hF <;> intro hc hF
  ·
   refine ls_off hF (.on rfl rfl rfl rfl rfl) rfl rfl ?_; clear hF a; intro a hF
   refine ls_off hF (.on rfl rfl rfl rfl rfl) rfl rfl ?_; clear hF a; intro a hF
   refine ls_off hF (.on rfl rfl rfl rfl rfl) rfl rfl ?_; clear hF a; intro a hF
   refine ls_val hF (.free rfl) rfl rfl (ex_pick_t rfl rfl rfl) ?_; clear hF a; intro a hF
   refine ls_nil ?_
   refine then_normal ?_
   refine cw_t hF rfl ?_
   refine cw_seq ?_
   refine wp_region_lit ?_
   refine ls_call hF (.free rfl) rfl rfl (ex_call0 rfl rfl cl_8 args0) (c_awake w) ?_; clear hF; rintro _ w ⟨rfl, hS'⟩ a hF
   replace hS : Sat w0 w [.blk g1 [vy, .int .i64 q], .blk g2 [vz, .int .i64 s]] := hS.comp hS'; clear hS'
   refine ls_val hF (.free rfl) rfl rfl (ex_assign rfl rfl) ?_; clear hF a; intro a hF
   refine ls_nil ?_
   refine then_normal ?_
   refine wp_ret ?_
   refine then_ret ((fin1 hF rfl rfl ⟨_, rfl, ?_⟩))
   exact ⟨rfl, hS.sub (.cons _ (.cons _ .slnil))⟩
  ·
   refine ls_val hF (.on rfl rfl rfl rfl rfl) rfl rfl (ex_loads_blk 1 rfl st_26 rfl hS rfl rfl) ?_; clear hF a; intro a hF
   refine ls_call hF (.on rfl rfl rfl rfl rfl) rfl rfl (ex_call0 rfl rfl cl_10 (args_cons rfl args0)) (c_few32 w (q := s) (h2.below hS.below)) ?_; clear hF; rintro _ w ⟨rfl, hS'⟩ a hF
   replace hS : Sat w0 w [.blk g1 [vy, .int .i64 q], .blk g2 [vz, .int .i64 s]] := hS.comp hS'; clear hS'
   refine ls_val hF (.on rfl rfl rfl rfl rfl) rfl rfl (ex_not rfl rfl) ?_; clear hF a; intro a hF
   refine ls_val hF (.free rfl) rfl rfl (ex_pick_f rfl rfl rfl) ?_; clear hF a; intro a hF
   refine ls_nil ?_
   refine then_normal ?_
   refine cw_if hF rfl (fun hc => ?_) (fun hc => ?_)
   ·
    refine cw_seq ?_
    refine wp_region_lit ?_
    refine ls_call hF (.free rfl) rfl rfl (ex_call0 rfl rfl cl_8 args0) (c_awake w) ?_; clear hF; rintro _ w ⟨rfl, hS'⟩ a hF
    replace hS : Sat w0 w [.blk g1 [vy, .int .i64 q], .blk g2 [vz, .int .i64 s]] := hS.comp hS'; clear hS'
    refine ls_val hF (.free rfl) rfl rfl (ex_assign rfl rfl) ?_; clear hF a; intro a hF
    refine ls_nil ?_
    refine then_normal ?_
    refine wp_ret ?_
    refine then_ret ((fin1 hF rfl rfl ⟨_, rfl, ?_⟩))
    exact ⟨rfl, hS.sub (.cons _ (.cons _ .slnil))⟩
   ·
    refine wp_skip ?_
    refine then_normal ?_
    refine cw_seq ?_
    refine wp_region_lit ?_
    refine ls_val hF (.free rfl) rfl rfl (ex_loads_blk 0 rfl st_26 rfl hS rfl rfl) ?_; clear hF a; intro a hF
    refine ls_val hF (.free rfl) rfl rfl (ex_move rfl rfl) ?_; clear hF a; intro a hF
    refine ls_call hF (.free rfl) rfl rfl (ex_call0 rfl rfl cl_18 (args_cons rfl (args_cons rfl args0))) (c_round w (h.below hS.below) (by omega) (r := r) (by omega) (by omega) ) ?_; clear hF; rintro _ w ⟨vn1, n1, fn1, qn1, en1, rfl, hln1, hbn1, hqn1, hrn1, hS'⟩ a hF
    replace hS : Sat w0 w [.blk g1 [vy, .int .i64 q], .blk g2 [vz, .int .i64 s], .own vn1 1 3 n1 (ints fn1)] := hS.comp hS'; clear hS'
    refine ls_val hF (.free rfl) rfl rfl (ex_move rfl rfl) ?_; clear hF a; intro a hF
    refine ls_val hF (.free rfl) rfl rfl (ex_extract rfl rfl rfl) ?_; clear hF a; intro a hF
    refine ls_val hF (.free rfl) rfl rfl (ex_extract rfl rfl rfl) ?_; clear hF a; intro a hF
    refine ls_any hF (.free rfl) rfl rfl (ex_alloc (cs := [.slice none 0 0, .int .i64 0]) rfl el_34 hS rfl) ?_; clear hF; rintro _ w ⟨g3, rfl, hS⟩ a hF
    replace hS : Sat w0 w [.blk g1 [vy, .int .i64 q], .blk g2 [vz, .int .i64 s], .own vn1 1 3 n1 (ints fn1), .blk g3 [.slice none 0 0, .int .i64 0]] := hS
    refine ls_effx hF (.free rfl) rfl (st_blks 3 (ds := [vn1, .int .i64 qn1]) rfl st_34 hS rfl rfl rfl rfl (ones_cons hln1.one (ones_cons rfl ones_nil))) ?_; clear hS; rintro w hS
    replace hS : Sat w0 w [.blk g1 [vy, .int .i64 q], .blk g2 [vz, .int .i64 s], .own vn1 1 3 n1 (ints fn1), .blk g3 [vn1, .int .i64 qn1]] := hS
    refine ls_val hF (.free rfl) rfl rfl (ex_assign rfl rfl) ?_; clear hF a; intro a hF
    refine ls_nil ?_
    refine then_normal ?_
    refine cw_seq ?_
    refine wp_region_lit ?_
    refine ls_val hF (.free rfl) rfl rfl (ex_loads_blk 0 rfl st_26 rfl hS rfl rfl) ?_; clear hF a; intro a hF
    refine ls_val hF (.free rfl) rfl rfl (ex_move rfl rfl) ?_; clear hF a; intro a hF
    refine ls_call hF (.free rfl) rfl rfl (ex_call0 rfl rfl cl_19 (args_cons rfl (args_cons rfl args0))) (c_rround w (h.below hS.below) (by omega) (r := r) (by omega) (by omega) ) ?_; clear hF; rintro _ w ⟨vn2, n2, fn2, qn2, en2, rfl, hln2, hbn2, hqn2, hrn2, hS'⟩ a hF
    replace hS : Sat w0 w [.blk g1 [vy, .int .i64 q], .blk g2 [vz, .int .i64 s], .own vn1 1 3 n1 (ints fn1), .blk g3 [vn1, .int .i64 qn1], .own vn2 1 3 n2 (ints fn2)] := hS.comp hS'; clear hS'
    have hen2 := (Res.same hrn1 hrn2).2
    refine ls_val hF (.free rfl) rfl rfl (ex_move rfl rfl) ?_; clear hF a; intro a hF
    refine ls_val hF (.free rfl) rfl rfl (ex_extract rfl rfl rfl) ?_; clear hF a; intro a hF
    refine ls_val hF (.free rfl) rfl rfl (ex_extract rfl rfl rfl) ?_; clear hF a; intro a hF
    refine ls_any hF (.free rfl) rfl rfl (ex_alloc (cs := [.slice none 0 0, .int .i64 0]) rfl el_26 hS rfl) ?_; clear hF; rintro _ w ⟨g4, rfl, hS⟩ a hF
    replace hS : Sat w0 w [.blk g1 [vy, .int .i64 q], .blk g2 [vz, .int .i64 s], .own vn1 1 3 n1 (ints fn1), .blk g3 [vn1, .int .i64 qn1], .own vn2 1 3 n2 (ints fn2), .blk g4 [.slice none 0 0, .int .i64 0]] := hS
    refine ls_effx hF (.free rfl) rfl (st_blks 5 (ds := [vn2, .int .i64 qn2]) rfl st_26 hS rfl rfl rfl rfl (ones_cons hln2.one (ones_cons rfl ones_nil))) ?_; clear hS; rintro w hS
    replace hS : Sat w0 w [.blk g1 [vy, .int .i64 q], .blk g2 [vz, .int .i64 s], .own vn1 1 3 n1 (ints fn1), .blk g3 [vn1, .int .i64 qn1], .own vn2 1 3 n2 (ints fn2), .blk g4 [vn2, .int .i64 qn2]] := hS
    refine ls_val hF (.free rfl) rfl rfl (ex_assign rfl rfl) ?_; clear hF a; intro a hF
    refine ls_nil ?_
    refine then_normal ?_
    refine cw_seq ?_
    refine wp_region_lit ?_
    refine ls_val hF (.free rfl) rfl rfl (ex_loads_blk 0 rfl st_26 rfl hS rfl rfl) ?_; clear hF a; intro a hF
    refine ls_val hF (.free rfl) rfl rfl (ex_loads_blk 1 rfl st_26 rfl hS rfl rfl) ?_; clear hF a; intro a hF
    refine ls_call hF (.free rfl) rfl rfl (ex_call0 rfl rfl cl_20 (args_cons rfl (args_cons rfl args0))) (c_sum w (h.below hS.below) (q := q) (by omega) (h2.below hS.below) (s := s) (by omega) (by omega) ) ?_; clear hF; rintro _ w ⟨vn3, n3, fn3, qn3, en3, rfl, hln3, hbn3, hqn3, hrn3, hS'⟩ a hF
    replace hS : Sat w0 w [.blk g1 [vy, .int .i64 q], .blk g2 [vz, .int .i64 s], .own vn1 1 3 n1 (ints fn1), .blk g3 [vn1, .int .i64 qn1], .own vn2 1 3 n2 (ints fn2), .blk g4 [vn2, .int .i64 qn2], .own vn3 1 3 n3 (ints fn3)] := hS.comp hS'; clear hS'
    refine ls_val hF (.free rfl) rfl rfl (ex_move rfl rfl) ?_; clear hF a; intro a hF
    refine ls_val hF (.free rfl) rfl rfl (ex_extract rfl rfl rfl) ?_; clear hF a; intro a hF
    refine ls_val hF (.free rfl) rfl rfl (ex_extract rfl rfl rfl) ?_; clear hF a; intro a hF
    refine ls_any hF (.free rfl) rfl rfl (ex_alloc (cs := [.slice none 0 0, .int .i64 0]) rfl el_34 hS rfl) ?_; clear hF; rintro _ w ⟨g5, rfl, hS⟩ a hF
    replace hS : Sat w0 w [.blk g1 [vy, .int .i64 q], .blk g2 [vz, .int .i64 s], .own vn1 1 3 n1 (ints fn1), .blk g3 [vn1, .int .i64 qn1], .own vn2 1 3 n2 (ints fn2), .blk g4 [vn2, .int .i64 qn2], .own vn3 1 3 n3 (ints fn3), .blk g5 [.slice none 0 0, .int .i64 0]] := hS
    refine ls_effx hF (.free rfl) rfl (st_blks 7 (ds := [vn3, .int .i64 qn3]) rfl st_34 hS rfl rfl rfl rfl (ones_cons hln3.one (ones_cons rfl ones_nil))) ?_; clear hS; rintro w hS
    replace hS : Sat w0 w [.blk g1 [vy, .int .i64 q], .blk g2 [vz, .int .i64 s], .own vn1 1 3 n1 (ints fn1), .blk g3 [vn1, .int .i64 qn1], .own vn2 1 3 n2 (ints fn2), .blk g4 [vn2, .int .i64 qn2], .own vn3 1 3 n3 (ints fn3), .blk g5 [vn3, .int .i64 qn3]] := hS
    refine ls_val hF (.free rfl) rfl rfl (ex_assign rfl rfl) ?_; clear hF a; intro a hF
    refine ls_nil ?_
    refine then_normal ?_
    refine cw_seq ?_
    refine wp_region_lit ?_
    refine ls_val hF (.free rfl) rfl rfl (ex_loads_blk 0 rfl st_26 rfl hS rfl rfl) ?_; clear hF a; intro a hF
    refine ls_val hF (.free rfl) rfl rfl (ex_loads_blk 1 rfl st_26 rfl hS rfl rfl) ?_; clear hF a; intro a hF
    refine ls_call hF (.free rfl) rfl rfl (ex_call0 rfl rfl cl_21 (args_cons rfl (args_cons rfl args0))) (c_rsum w (h.below hS.below) (q := q) (by omega) (h2.below hS.below) (s := s) (by omega) (by omega) ) ?_; clear hF; rintro _ w ⟨vn4, n4, fn4, qn4, en4, rfl, hln4, hbn4, hqn4, hrn4, hS'⟩ a hF
    replace hS : Sat w0 w [.blk g1 [vy, .int .i64 q], .blk g2 [vz, .int .i64 s], .own vn1 1 3 n1 (ints fn1), .blk g3 [vn1, .int .i64 qn1], .own vn2 1 3 n2 (ints fn2), .blk g4 [vn2, .int .i64 qn2], .own vn3 1 3 n3 (ints fn3), .blk g5 [vn3, .int .i64 qn3], .own vn4 1 3 n4 (ints fn4)] := hS.comp hS'; clear hS'
    have hen4 := (Res.same hrn3 hrn4).2
    refine ls_val hF (.free rfl) rfl rfl (ex_move rfl rfl) ?_; clear hF a; intro a hF
    refine ls_val hF (.free rfl) rfl rfl (ex_extract rfl rfl rfl) ?_; clear hF a; intro a hF
    refine ls_val hF (.free rfl) rfl rfl (ex_extract rfl rfl rfl) ?_; clear hF a; intro a hF
    refine ls_any hF (.free rfl) rfl rfl (ex_alloc (cs := [.slice none 0 0, .int .i64 0]) rfl el_26 hS rfl) ?_; clear hF; rintro _ w ⟨g6, rfl, hS⟩ a hF
    replace hS : Sat w0 w [.blk g1 [vy, .int .i64 q], .blk g2 [vz, .int .i64 s], .own vn1 1 3 n1 (ints fn1), .blk g3 [vn1, .int .i64 qn1], .own vn2 1 3 n2 (ints fn2), .blk g4 [vn2, .int .i64 qn2], .own vn3 1 3 n3 (ints fn3), .blk g5 [vn3, .int .i64 qn3], .own vn4 1 3 n4 (ints fn4), .blk g6 [.slice none 0 0, .int .i64 0]] := hS
    refine ls_effx hF (.free rfl) rfl (st_blks 9 (ds := [vn4, .int .i64 qn4]) rfl st_26 hS rfl rfl rfl rfl (ones_cons hln4.one (ones_cons rfl ones_nil))) ?_; clear hS; rintro w hS
    replace hS : Sat w0 w [.blk g1 [vy, .int .i64 q], .blk g2 [vz, .int .i64 s], .own vn1 1 3 n1 (ints fn1), .blk g3 [vn1, .int .i64 qn1], .own vn2 1 3 n2 (ints fn2), .blk g4 [vn2, .int .i64 qn2], .own vn3 1 3 n3 (ints fn3), .blk g5 [vn3, .int .i64 qn3], .own vn4 1 3 n4 (ints fn4), .blk g6 [vn4, .int .i64 qn4]] := hS
    refine ls_val hF (.free rfl) rfl rfl (ex_assign rfl rfl) ?_; clear hF a; intro a hF
    refine ls_nil ?_
    refine then_normal ?_
    refine cw_seq ?_
    refine wp_region_lit ?_
    refine ls_val hF (.free rfl) rfl rfl (ex_loads_blk 3 rfl st_34 rfl hS rfl rfl) ?_; clear hF a; intro a hF
    refine ls_val hF (.free rfl) rfl rfl (ex_loads_blk 5 rfl st_26 rfl hS rfl rfl) ?_; clear hF a; intro a hF
    refine ls_call hF (.free rfl) rfl rfl (ex_call0 rfl rfl cl_22 (args_cons rfl (args_cons rfl args0))) (c_same w (⟨(hS.rowN 2 rfl), hbn1⟩ : IAt _ _ n1 fn1) (⟨(hS.rowN 4 rfl), hbn2⟩ : IAt _ _ n2 fn2) (q1 := qn1) (q2 := qn2) (Res.same hrn1 hrn2).1) ?_; clear hF; rintro _ w ⟨rfl, hS'⟩ a hF
    replace hS : Sat w0 w [.blk g1 [vy, .int .i64 q], .blk g2 [vz, .int .i64 s], .own vn1 1 3 n1 (ints fn1), .blk g3 [vn1, .int .i64 qn1], .own vn2 1 3 n2 (ints fn2), .blk g4 [vn2, .int .i64 qn2], .own vn3 1 3 n3 (ints fn3), .blk g5 [vn3, .int .i64 qn3], .own vn4 1 3 n4 (ints fn4), .blk g6 [vn4, .int .i64 qn4]] := hS.comp hS'; clear hS'
    refine ls_val hF (.free rfl) rfl rfl (ex_move rfl rfl) ?_; clear hF a; intro a hF
    refine ls_val hF (.on rfl rfl rfl rfl rfl) rfl rfl (ex_move rfl rfl) ?_; clear hF a; intro a hF
    refine ls_val hF (.on rfl rfl rfl rfl rfl) rfl rfl (ex_move rfl rfl) ?_; clear hF a; intro a hF
    refine ls_val hF (.on rfl rfl rfl rfl rfl) rfl rfl (known_t (ex_eql rfl rfl rfl) (by omega)) ?_; clear hF a; intro a hF
    refine ls_val hF (.free rfl) rfl rfl (ex_pick_t rfl rfl rfl) ?_; clear hF a; intro a hF
    refine ls_val hF (.free rfl) rfl rfl (ex_move rfl rfl) ?_; clear hF a; intro a hF
    refine ls_val hF (.on rfl rfl rfl rfl rfl) rfl rfl (ex_loads_blk 7 rfl st_34 rfl hS rfl rfl) ?_; clear hF a; intro a hF
    refine ls_val hF (.on rfl rfl rfl rfl rfl) rfl rfl (ex_loads_blk 9 rfl st_26 rfl hS rfl rfl) ?_; clear hF a; intro a hF
    refine ls_call hF (.on rfl rfl rfl rfl rfl) rfl rfl (ex_call0 rfl rfl cl_22 (args_cons rfl (args_cons rfl args0))) (c_same w (⟨(hS.rowN 6 rfl), hbn3⟩ : IAt _ _ n3 fn3) (⟨(hS.rowN 8 rfl), hbn4⟩ : IAt _ _ n4 fn4) (q1 := qn3) (q2 := qn4) (Res.same hrn3 hrn4).1) ?_; clear hF; rintro _ w ⟨rfl, hS'⟩ a hF
    replace hS : Sat w0 w [.blk g1 [vy, .int .i64 q], .blk g2 [vz, .int .i64 s], .own vn1 1 3 n1 (ints fn1), .blk g3 [vn1, .int .i64 qn1], .own vn2 1 3 n2 (ints fn2), .blk g4 [vn2, .int .i64 qn2], .own vn3 1 3 n3 (ints fn3), .blk g5 [vn3, .int .i64 qn3], .own vn4 1 3 n4 (ints fn4), .blk g6 [vn4, .int .i64 qn4]] := hS.comp hS'; clear hS'
    refine ls_val hF (.free rfl) rfl rfl (ex_pick_t rfl rfl rfl) ?_; clear hF a; intro a hF
    refine ls_val hF (.free rfl) rfl rfl (ex_move rfl rfl) ?_; clear hF a; intro a hF
    refine ls_val hF (.on rfl rfl rfl rfl rfl) rfl rfl (ex_move rfl rfl) ?_; clear hF a; intro a hF
    refine ls_val hF (.on rfl rfl rfl rfl rfl) rfl rfl (ex_move rfl rfl) ?_; clear hF a; intro a hF
    refine ls_val hF (.on rfl rfl rfl rfl rfl) rfl rfl (known_t (ex_eql rfl rfl rfl) (by omega)) ?_; clear hF a; intro a hF
    refine ls_val hF (.free rfl) rfl rfl (ex_pick_t rfl rfl rfl) ?_; clear hF a; intro a hF
    refine ls_val hF (.free rfl) rfl rfl (ex_assign rfl rfl) ?_; clear hF a; intro a hF
    refine ls_nil ?_
    refine then_normal ?_
    refine wp_ret ?_
    refine (fin1 hF rfl rfl ⟨_, rfl, ?_⟩)
    exact ⟨rfl, hS.sub (.cons _ (.cons _ (.cons _ (.cons _ (.cons _ (.cons _ (.cons _ (.cons _ (.cons _ (.cons _ .slnil))))))))))⟩

end Go.Proofs.Ytigefiejddmidaa
