/- The walks of check, of rectbound. -/
import Derived.Test.YtmlfpniaknmmfaaW1
import Derived.Test.YtmlfpniaknmmfaaFv
namespace Go.Proofs.Ytmlfpniaknmmfaa
open Go Go.RowKit Go.Proofs.Gw
set_option linter.unusedVariables false

theorem cl_34 : calledT Try.prog 34 = true := by kernel_rfl
theorem cl_35 : calledT Try.prog 35 = true := by kernel_rfl
theorem cl_36 : calledT Try.prog 36 = true := by kernel_rfl
theorem cl_43 : calledT Try.prog 43 = true := by kernel_rfl
theorem fd_60_0 : fieldT Try.prog 60 0 = some 0 := by kernel_rfl
theorem fd_60_1 : fieldT Try.prog 60 1 = some 1 := by kernel_rfl
theorem fd_60_2 : fieldT Try.prog 60 2 = some 2 := by kernel_rfl
theorem sl_38 : sliceT Try.prog 38 = some (60, 3) := by kernel_rfl
theorem st_60 : structT Try.prog 60 = some 3 := by kernel_rfl
theorem c_wrong {d : Dem} {i : Int} (w0 : World) :
    Calls Try.prog 34 [.agg #[.int .i64 (d.W i), .int .i64 (d.H i), .int .i64 (d.N i)]].toArray w0 fun e w => ∃ v, e = .returned v ∧ v = B (¬ d.each i) ∧ Sat w0 w [] := by
  refine enterS (vs := [.agg #[.int .i64 (d.W i), .int .i64 (d.H i), .int .i64 (d.N i)]]) Try.func34 rfl Try.ntmps34 rfl ?_
  intro a w hS hF
  refine cw_seq ?_
  refine wp_region_lit ?_
  refine ls_any hF (.free rfl) rfl rfl (ex_box (cs := [.int .i64 (d.W i), .int .i64 (d.H i), .int .i64 (d.N i)]) rfl hS rfl rfl) ?_; clear hF; rintro _ w ⟨g1, rfl, hS⟩ a hF
  replace hS : Sat w0 w [.blk g1 [.int .i64 (d.W i), .int .i64 (d.H i), .int .i64 (d.N i)]] := hS
  refine ls_val hF (.free rfl) rfl rfl (ex_assign rfl rfl) ?_; clear hF a; intro a hF
  refine ls_nil ?_
  refine then_normal ?_
  refine cw_seq ?_
  refine wp_region_lit ?_
  refine ls_val hF (.free rfl) rfl rfl (ex_field (b := ⟨g1, 0, none⟩) rfl fd_60_0 rfl rfl) ?_; clear hF a; intro a hF
  refine ls_val hF (.free rfl) rfl rfl (ex_load_blk 0 rfl pl_3 rfl hS rfl rfl) ?_; clear hF a; intro a hF
  refine ls_call hF (.free rfl) rfl rfl (ex_call0 rfl rfl cl_32 (args_cons rfl (args_cons rfl (args_cons rfl args0)))) (c_in w) ?_; clear hF; rintro _ w ⟨rfl, hS'⟩ a hF
  replace hS : Sat w0 w [.blk g1 [.int .i64 (d.W i), .int .i64 (d.H i), .int .i64 (d.N i)]] := hS.comp hS'; clear hS'
  refine ls_val hF (.free rfl) rfl rfl (ex_not rfl rfl) ?_; clear hF a; intro a hF
  refine ls_val hF (.free rfl) rfl rfl (ex_move rfl rfl) ?_; clear hF a; intro a hF
  refine by_slot hF (d := 7) rfl ?_ ?_ <;> clear hF <;> intro hc hF
  ·
   refine ls_off hF (.on rfl rfl rfl rfl rfl) rfl rfl ?_; clear hF a; intro a hF
   refine ls_off hF (.on rfl rfl rfl rfl rfl) rfl rfl ?_; clear hF a; intro a hF
   refine ls_off hF (.on rfl rfl rfl rfl rfl) rfl rfl ?_; clear hF a; intro a hF
   refine ls_off hF (.on rfl rfl rfl rfl rfl) rfl rfl ?_; clear hF a; intro a hF
   refine ls_val hF (.free rfl) rfl rfl (ex_pick_t rfl rfl rfl) ?_; clear hF a; intro a hF
   refine ls_val hF (.free rfl) rfl rfl (ex_move rfl rfl) ?_; clear hF a; intro a hF
   refine ls_off hF (.on rfl rfl rfl rfl rfl) rfl rfl ?_; clear hF a; intro a hF
   refine ls_off hF (.on rfl rfl rfl rfl rfl) rfl rfl ?_; clear hF a; intro a hF
   refine ls_off hF (.on rfl rfl rfl rfl rfl) rfl rfl ?_; clear hF a; intro a hF
   refine ls_off hF (.on rfl rfl rfl rfl rfl) rfl rfl ?_; clear hF a; intro a hF
   refine ls_val hF (.free rfl) rfl rfl (ex_pick_t rfl rfl rfl) ?_; clear hF a; intro a hF
   refine ls_val hF (.free rfl) rfl rfl (ex_assign rfl rfl) ?_; clear hF a; intro a hF
   refine ls_nil ?_
   refine then_normal ?_
   refine wp_ret ?_
   refine (fin1 hF rfl rfl ⟨_, rfl, ?_⟩)
   exact ⟨true_B (by unfold Dem.each; omega), hS.sub (.cons _ .slnil)⟩
  ·
   refine ls_val hF (.on rfl rfl rfl rfl rfl) rfl rfl (ex_field (b := ⟨g1, 1, none⟩) rfl fd_60_1 rfl rfl) ?_; clear hF a; intro a hF
   refine ls_val hF (.on rfl rfl rfl rfl rfl) rfl rfl (ex_load_blk 0 rfl pl_3 rfl hS rfl rfl) ?_; clear hF a; intro a hF
   refine ls_call hF (.on rfl rfl rfl rfl rfl) rfl rfl (ex_call0 rfl rfl cl_32 (args_cons rfl (args_cons rfl (args_cons rfl args0)))) (c_in w) ?_; clear hF; rintro _ w ⟨rfl, hS'⟩ a hF
   replace hS : Sat w0 w [.blk g1 [.int .i64 (d.W i), .int .i64 (d.H i), .int .i64 (d.N i)]] := hS.comp hS'; clear hS'
   refine ls_val hF (.on rfl rfl rfl rfl rfl) rfl rfl (ex_not rfl rfl) ?_; clear hF a; intro a hF
   refine ls_val hF (.free rfl) rfl rfl (ex_pick_f rfl rfl rfl) ?_; clear hF a; intro a hF
   refine ls_val hF (.free rfl) rfl rfl (ex_move rfl rfl) ?_; clear hF a; intro a hF
   refine by_slot hF (d := 13) rfl ?_ ?_ <;> clear hF <;> intro hc hF
   ·
    refine ls_off hF (.on rfl rfl rfl rfl rfl) rfl rfl ?_; clear hF a; intro a hF
    refine ls_off hF (.on rfl rfl rfl rfl rfl) rfl rfl ?_; clear hF a; intro a hF
    refine ls_off hF (.on rfl rfl rfl rfl rfl) rfl rfl ?_; clear hF a; intro a hF
    refine ls_off hF (.on rfl rfl rfl rfl rfl) rfl rfl ?_; clear hF a; intro a hF
    refine ls_val hF (.free rfl) rfl rfl (ex_pick_t rfl rfl rfl) ?_; clear hF a; intro a hF
    refine ls_val hF (.free rfl) rfl rfl (ex_assign rfl rfl) ?_; clear hF a; intro a hF
    refine ls_nil ?_
    refine then_normal ?_
    refine wp_ret ?_
    refine (fin1 hF rfl rfl ⟨_, rfl, ?_⟩)
    exact ⟨true_B (by unfold Dem.each; omega), hS.sub (.cons _ .slnil)⟩
   ·
    refine ls_val hF (.on rfl rfl rfl rfl rfl) rfl rfl (ex_field (b := ⟨g1, 2, none⟩) rfl fd_60_2 rfl rfl) ?_; clear hF a; intro a hF
    refine ls_val hF (.on rfl rfl rfl rfl rfl) rfl rfl (ex_load_blk 0 rfl pl_3 rfl hS rfl rfl) ?_; clear hF a; intro a hF
    refine ls_call hF (.on rfl rfl rfl rfl rfl) rfl rfl (ex_call0 rfl rfl cl_32 (args_cons rfl (args_cons rfl (args_cons rfl args0)))) (c_in w) ?_; clear hF; rintro _ w ⟨rfl, hS'⟩ a hF
    replace hS : Sat w0 w [.blk g1 [.int .i64 (d.W i), .int .i64 (d.H i), .int .i64 (d.N i)]] := hS.comp hS'; clear hS'
    refine ls_val hF (.on rfl rfl rfl rfl rfl) rfl rfl (ex_not rfl rfl) ?_; clear hF a; intro a hF
    refine ls_val hF (.free rfl) rfl rfl (ex_pick_f rfl rfl rfl) ?_; clear hF a; intro a hF
    refine ls_val hF (.free rfl) rfl rfl (ex_assign rfl rfl) ?_; clear hF a; intro a hF
    refine ls_nil ?_
    refine then_normal ?_
    refine wp_ret ?_
    refine (fin1 hF rfl rfl ⟨_, rfl, ?_⟩)
    exact ⟨B_congr (by unfold Dem.each; omega), hS.sub (.cons _ .slnil)⟩

theorem c_great {d : Dem} {i : Int} {s : Sht} {a1 a2 : Addr} (w0 : World) (hp1 : w0.cell? a1 = some (.int .i64 s.w)) (hp2 : w0.cell? a2 = some (.int .i64 s.h)) :
    Calls Try.prog 35 [.agg #[.int .i64 (d.W i), .int .i64 (d.H i), .int .i64 (d.N i)], .pointer (some a1), .pointer (some a2)].toArray w0 fun e w => ∃ v, e = .returned v ∧ v = B (d.great s i) ∧ Sat w0 w [] := by
  refine enterS (vs := [.agg #[.int .i64 (d.W i), .int .i64 (d.H i), .int .i64 (d.N i)], .pointer (some a1), .pointer (some a2)]) Try.func35 rfl Try.ntmps35 rfl ?_
  intro a w hS hF
  refine cw_seq ?_
  refine wp_region_lit ?_
  refine ls_any hF (.free rfl) rfl rfl (ex_box (cs := [.int .i64 (d.W i), .int .i64 (d.H i), .int .i64 (d.N i)]) rfl hS rfl rfl) ?_; clear hF; rintro _ w ⟨g1, rfl, hS⟩ a hF
  replace hS : Sat w0 w [.blk g1 [.int .i64 (d.W i), .int .i64 (d.H i), .int .i64 (d.N i)]] := hS
  refine ls_val hF (.free rfl) rfl rfl (ex_assign rfl rfl) ?_; clear hF a; intro a hF
  refine ls_nil ?_
  refine then_normal ?_
  refine cw_seq ?_
  refine wp_region_lit ?_
  refine ls_val hF (.free rfl) rfl rfl (ex_field (b := ⟨g1, 2, none⟩) rfl fd_60_2 rfl rfl) ?_; clear hF a; intro a hF
  refine ls_val hF (.free rfl) rfl rfl (ex_load_blk 0 rfl pl_3 rfl hS rfl rfl) ?_; clear hF a; intro a hF
  refine ls_val hF (.free rfl) rfl rfl (ex_gtr rfl rfl rfl) ?_; clear hF a; intro a hF
  refine ls_val hF (.free rfl) rfl rfl (ex_move rfl rfl) ?_; clear hF a; intro a hF
  refine by_slot hF (d := 8) rfl ?_ ?_ <;> clear hF <;> intro hc hF
  ·
   refine ls_val hF (.on rfl rfl rfl rfl rfl) rfl rfl (ex_field (b := ⟨g1, 0, none⟩) rfl fd_60_0 rfl rfl) ?_; clear hF a; intro a hF
   refine ls_val hF (.on rfl rfl rfl rfl rfl) rfl rfl (ex_load_blk 0 rfl pl_3 rfl hS rfl rfl) ?_; clear hF a; intro a hF
   refine ls_val hF (.on rfl rfl rfl rfl rfl) rfl rfl (ex_load_ref rfl pl_3 rfl hp1 hS) ?_; clear hF a; intro a hF
   refine ls_val hF (.on rfl rfl rfl rfl rfl) rfl rfl (ex_gtr rfl rfl rfl) ?_; clear hF a; intro a hF
   refine ls_val hF (.on rfl rfl rfl rfl rfl) rfl rfl (ex_move rfl rfl) ?_; clear hF a; intro a hF
   refine by_slot hF (d := 13) rfl ?_ ?_ <;> clear hF <;> intro hc hF
   ·
    refine ls_off hF (.on rfl rfl rfl rfl rfl) rfl rfl ?_; clear hF a; intro a hF
    refine ls_off hF (.on rfl rfl rfl rfl rfl) rfl rfl ?_; clear hF a; intro a hF
    refine ls_off hF (.on rfl rfl rfl rfl rfl) rfl rfl ?_; clear hF a; intro a hF
    refine ls_off hF (.on rfl rfl rfl rfl rfl) rfl rfl ?_; clear hF a; intro a hF
    refine ls_val hF (.on rfl rfl rfl rfl rfl) rfl rfl (ex_pick_t rfl rfl rfl) ?_; clear hF a; intro a hF
    refine ls_val hF (.free rfl) rfl rfl (ex_pick_t rfl rfl rfl) ?_; clear hF a; intro a hF
    refine ls_val hF (.free rfl) rfl rfl (ex_assign rfl rfl) ?_; clear hF a; intro a hF
    refine ls_nil ?_
    refine then_normal ?_
    refine wp_ret ?_
    refine (fin1 hF rfl rfl ⟨_, rfl, ?_⟩)
    exact ⟨true_B (by unfold Dem.great; omega), hS.sub (.cons _ .slnil)⟩
   ·
    refine ls_val hF (.on rfl rfl rfl rfl rfl) rfl rfl (ex_field (b := ⟨g1, 1, none⟩) rfl fd_60_1 rfl rfl) ?_; clear hF a; intro a hF
    refine ls_val hF (.on rfl rfl rfl rfl rfl) rfl rfl (ex_load_blk 0 rfl pl_3 rfl hS rfl rfl) ?_; clear hF a; intro a hF
    refine ls_val hF (.on rfl rfl rfl rfl rfl) rfl rfl (ex_load_ref rfl pl_3 rfl hp2 hS) ?_; clear hF a; intro a hF
    refine ls_val hF (.on rfl rfl rfl rfl rfl) rfl rfl (ex_gtr rfl rfl rfl) ?_; clear hF a; intro a hF
    refine ls_val hF (.on rfl rfl rfl rfl rfl) rfl rfl (ex_pick_f rfl rfl rfl) ?_; clear hF a; intro a hF
    refine ls_val hF (.free rfl) rfl rfl (ex_pick_t rfl rfl rfl) ?_; clear hF a; intro a hF
    refine ls_val hF (.free rfl) rfl rfl (ex_assign rfl rfl) ?_; clear hF a; intro a hF
    refine ls_nil ?_
    refine then_normal ?_
    refine wp_ret ?_
    refine (fin1 hF rfl rfl ⟨_, rfl, ?_⟩)
    exact ⟨B_congr (by unfold Dem.great; omega), hS.sub (.cons _ .slnil)⟩
  ·
   refine ls_off hF (.on rfl rfl rfl rfl rfl) rfl rfl ?_; clear hF a; intro a hF
   refine ls_off hF (.on rfl rfl rfl rfl rfl) rfl rfl ?_; clear hF a; intro a hF
   refine ls_off hF (.on rfl rfl rfl rfl rfl) rfl rfl ?_; clear hF a; intro a hF
   refine ls_off hF (.on rfl rfl rfl rfl rfl) rfl rfl ?_; clear hF a; intro a hF
   refine ls_off hF (.on rfl rfl rfl rfl rfl) rfl rfl ?_; clear hF a; intro a hF
   refine ls_off hF (.off rfl rfl rfl rfl) rfl rfl ?_; clear hF a; intro a hF
   refine ls_off hF (.off rfl rfl rfl rfl) rfl rfl ?_; clear hF a; intro a hF
   refine ls_off hF (.off rfl rfl rfl rfl) rfl rfl ?_; clear hF a; intro a hF
   refine ls_off hF (.off rfl rfl rfl rfl) rfl rfl ?_; clear hF a; intro a hF
   refine ls_off hF (.on rfl rfl rfl rfl rfl) rfl rfl ?_; clear hF a; intro a hF
   refine ls_val hF (.free rfl) rfl rfl (ex_pick_f rfl rfl rfl) ?_; clear hF a; intro a hF
   refine ls_val hF (.free rfl) rfl rfl (ex_assign rfl rfl) ?_; clear hF a; intro a hF
   refine ls_nil ?_
   refine then_normal ?_
   refine wp_ret ?_
   refine (fin1 hF rfl rfl ⟨_, rfl, ?_⟩)
   exact ⟨false_B (by unfold Dem.great; omega), hS.sub (.cons _ .slnil)⟩

theorem c_index1 {vD : Value} {d : Dem} (w0 : World) (hD : DAt w0 vD d.n d.W d.H d.N) :
    Calls Try.prog 43 [vD, .func (.func 34) #[] #[]].toArray w0 fun e w => ∃ v, e = .returned v ∧ ∃ r : Int, v = .int .i64 r ∧ ((r = -1 ∧ ∀ k, 0 ≤ k → k < d.n → ¬ (¬ d.each k)) ∨ (0 ≤ r ∧ r < d.n ∧ (¬ d.each r))) ∧ Sat w0 w [] := by
  have hn := hD.row.slh.n0; have hn1 := hD.row.slh.n1
  refine enterS (vs := [vD, .func (.func 34) #[] #[]]) Try.func43 rfl Try.ntmps43 rfl ?_
  intro a w hS hF
  refine cw_seq ?_
  refine wp_region_lit ?_
  refine ls_val hF (.free rfl) rfl rfl (ex_assign rfl rfl) ?_; clear hF a; intro a hF
  refine ls_nil ?_
  refine then_normal ?_
  refine cw_seq ?_
  refine cw_seq ?_
  refine wp_region_lit ?_
  refine ls_val hF (.free rfl) rfl rfl (ex_move rfl rfl) ?_; clear hF a; intro a hF
  refine ls_val hF (.free rfl) rfl rfl (ex_len rfl sl_38 rfl hD.row.slh) ?_; clear hF a; intro a hF
  refine ls_val hF (.free rfl) rfl rfl (ex_move rfl rfl) ?_; clear hF a; intro a hF
  refine ls_nil ?_
  refine then_normal ?_
  refine wp_block ?_
  refine cw_loop (fun mm a w => ∃ (i : Int), mm = ((d.n - i).toNat) ∧ (0 ≤ i) ∧ (i ≤ d.n) ∧ (∀ k, 0 ≤ k → k < i → ¬ (¬ d.each k)) ∧ Fr a 19 [(0, vD), (1, .func (.func 34) #[] #[]), (7, .int .i64 d.n), (8, .int .i64 i)] ∧ Sat w0 w []) ?_ ?_ (m := ((d.n - 0).toNat))
  ·
   refine ⟨0, rfl, (by omega), (by omega), ?_, (hF.pick (hF.pick (hF.pick (hF.pick hF.nil 8 rfl) 7 rfl) 1 rfl) 0 rfl), hS⟩
   ·
    intro k h0 h1; omega
  ·
   clear hF hS a w
   rintro mm a w ⟨i, rfl, h0, h1, hall, hF, hS⟩
   refine cw_seq ?_
   refine wp_region_lit ?_
   refine ls_val hF (.free rfl) rfl rfl (ex_lss rfl rfl rfl) ?_; clear hF a; intro a hF
   refine ls_nil ?_
   refine then_normal ?_
   refine cw_seq ?_
   refine cw_if hF rfl (fun hc => ?_) (fun hc => ?_)
   ·
    refine wp_skip ?_
    refine then_normal ?_
    refine cw_seq ?_
    refine wp_block ?_
    refine cw_seq ?_
    refine wp_region_lit ?_
    refine ls_val hF (.free rfl) rfl rfl (ex_move rfl rfl) ?_; clear hF a; intro a hF
    refine ls_val hF (.free rfl) rfl rfl (ex_assign rfl rfl) ?_; clear hF a; intro a hF
    refine ls_nil ?_
    refine then_normal ?_
    refine cw_seq ?_
    refine wp_region_lit ?_
    refine ls_val hF (.free rfl) rfl rfl (ex_move rfl rfl) ?_; clear hF a; intro a hF
    refine ls_val hF (.free rfl) rfl rfl (ex_move rfl rfl) ?_; clear hF a; intro a hF
    refine ls_val hF (.free rfl) rfl rfl (ex_move rfl rfl) ?_; clear hF a; intro a hF
    refine ls_val hF (.free rfl) rfl rfl (ex_index (k := 3 * i) rfl sl_38 rfl rfl hD.row.slh (by omega) (by omega) (by omega)) ?_; clear hF a; intro a hF
    refine ls_val hF (.free rfl) rfl rfl (ex_loads_row (cs := [.int .i64 (d.W i), .int .i64 (d.H i), .int .i64 (d.N i)]) rfl st_60 rfl (hD.row.below hS.below) (by omega) (by omega) rfl (by omega) (dcells_at d.W d.H d.N (by omega))) ?_; clear hF a; intro a hF
    have hbv := hD.bw i
    have hbv := hD.bh i
    have hbv := hD.bn i
    refine ls_call hF (.free rfl) rfl rfl (ex_call0 rfl rfl cl_34 (args_cons rfl args0)) (c_wrong (d := d) (i := i) w) ?_; clear hF; rintro _ w ⟨rfl, hS'⟩ a hF
    replace hS : Sat w0 w [] := hS.comp hS'; clear hS'
    refine ls_nil ?_
    refine then_normal ?_
    refine cw_if hF rfl (fun hc => ?_) (fun hc => ?_)
    ·
     refine cw_seq ?_
     refine wp_region_lit ?_
     refine ls_val hF (.free rfl) rfl rfl (ex_move rfl rfl) ?_; clear hF a; intro a hF
     refine ls_val hF (.free rfl) rfl rfl (ex_assign rfl rfl) ?_; clear hF a; intro a hF
     refine ls_nil ?_
     refine then_normal ?_
     refine wp_ret ?_
     refine inb_ret (then_ret (then_ret (inb_ret (then_ret ((fin1 hF rfl rfl ⟨_, rfl, ?_⟩))))))
     exact ⟨i, rfl, .inr ⟨by omega, by omega, ‹¬ d.each i›⟩, hS⟩
    ·
     refine wp_skip ?_
     refine inb_normal ?_
     refine then_normal ?_
     refine wp_region_lit ?_
     refine ls_val hF (.free rfl) rfl rfl (ex_add (r := i + 1) rfl rfl rfl (by omega) (by unfold I64; omega)) ?_; clear hF a; intro a hF
     refine ls_val hF (.free rfl) rfl rfl (ex_move rfl rfl) ?_; clear hF a; intro a hF
     refine ls_nil ?_
     refine then_normal ?_
     refine ⟨_, (by omega), i + 1, rfl, (by omega), (by omega), ?_, (hF.pick (hF.pick (hF.pick (hF.pick hF.nil 8 rfl) 7 rfl) 1 rfl) 0 rfl), hS⟩
     ·
      intro k h0' h1'; rcases Int.lt_or_eq_of_le (show k ≤ i by omega) with hk | hk; exact hall k h0' hk; rw [hk]; assumption
   ·
    refine wp_exit ?_
    refine then_exit ?_
    refine then_exit ?_
    refine inb_hit ?_
    refine then_normal ?_
    refine cw_seq ?_
    refine wp_region_lit ?_
    refine ls_val hF (.free rfl) rfl rfl (ex_assign rfl rfl) ?_; clear hF a; intro a hF
    refine ls_nil ?_
    refine then_normal ?_
    refine wp_ret ?_
    refine (fin1 hF rfl rfl ⟨_, rfl, ?_⟩)
    exact ⟨-1, rfl, .inl ⟨rfl, fun k h0 h1 => hall k h0 (by omega)⟩, hS⟩

theorem c_contains1 {vD : Value} {d : Dem} (w0 : World) (hD : DAt w0 vD d.n d.W d.H d.N) :
    Calls Try.prog 36 [vD, .func (.func 34) #[] #[]].toArray w0 fun e w => ∃ v, e = .returned v ∧ v = B (∃ k, 0 ≤ k ∧ k < d.n ∧ (¬ d.each k)) ∧ Sat w0 w [] := by
  refine enterS (vs := [vD, .func (.func 34) #[] #[]]) Try.func36 rfl Try.ntmps36 rfl ?_
  intro a w hS hF
  refine cw_seq ?_
  refine wp_region_lit ?_
  refine ls_val hF (.free rfl) rfl rfl (ex_assign rfl rfl) ?_; clear hF a; intro a hF
  refine ls_nil ?_
  refine then_normal ?_
  refine cw_seq ?_
  refine wp_region_lit ?_
  refine ls_val hF (.free rfl) rfl rfl (ex_move rfl rfl) ?_; clear hF a; intro a hF
  refine ls_val hF (.free rfl) rfl rfl (ex_move rfl rfl) ?_; clear hF a; intro a hF
  refine ls_call hF (.free rfl) rfl rfl (ex_call0 rfl rfl cl_43 (args_cons rfl (args_cons rfl args0))) (c_index1 w (hD.below hS.below)) ?_; clear hF; rintro _ w ⟨r1, rfl, hr1, hS'⟩ a hF
  replace hS : Sat w0 w [] := hS.comp hS'; clear hS'
  refine ls_val hF (.free rfl) rfl rfl (ex_geq rfl rfl rfl) ?_; clear hF a; intro a hF
  refine ls_val hF (.free rfl) rfl rfl (ex_assign rfl rfl) ?_; clear hF a; intro a hF
  refine ls_nil ?_
  refine then_normal ?_
  refine wp_ret ?_
  refine (fin1 hF rfl rfl ⟨_, rfl, ?_⟩)
  exact ⟨B_congr (by
   rcases hr1 with ⟨h1, h2⟩ | ⟨h1, h2, h3⟩
   · exact ⟨fun h => by omega, fun ⟨k, h4, h5, h6⟩ => absurd h6 (h2 k h4 h5)⟩
   · exact ⟨fun _ => ⟨_, h1, h2, h3⟩, fun _ => h1⟩), hS⟩

theorem c_index2 {vD : Value} {d : Dem} {s : Sht} {a1 a2 : Addr} (w0 : World) (hD : DAt w0 vD d.n d.W d.H d.N) (hp1 : w0.cell? a1 = some (.int .i64 s.w)) (hp2 : w0.cell? a2 = some (.int .i64 s.h)) :
    Calls Try.prog 43 [vD, .func (.func 35) #[] #[.pointer (some a1), .pointer (some a2)]].toArray w0 fun e w => ∃ v, e = .returned v ∧ ∃ r : Int, v = .int .i64 r ∧ ((r = -1 ∧ ∀ k, 0 ≤ k → k < d.n → ¬ (d.great s k)) ∨ (0 ≤ r ∧ r < d.n ∧ (d.great s r))) ∧ Sat w0 w [] := by
  have hn := hD.row.slh.n0; have hn1 := hD.row.slh.n1
  refine enterS (vs := [vD, .func (.func 35) #[] #[.pointer (some a1), .pointer (some a2)]]) Try.func43 rfl Try.ntmps43 rfl ?_
  intro a w hS hF
  refine cw_seq ?_
  refine wp_region_lit ?_
  refine ls_val hF (.free rfl) rfl rfl (ex_assign rfl rfl) ?_; clear hF a; intro a hF
  refine ls_nil ?_
  refine then_normal ?_
  refine cw_seq ?_
  refine cw_seq ?_
  refine wp_region_lit ?_
  refine ls_val hF (.free rfl) rfl rfl (ex_move rfl rfl) ?_; clear hF a; intro a hF
  refine ls_val hF (.free rfl) rfl rfl (ex_len rfl sl_38 rfl hD.row.slh) ?_; clear hF a; intro a hF
  refine ls_val hF (.free rfl) rfl rfl (ex_move rfl rfl) ?_; clear hF a; intro a hF
  refine ls_nil ?_
  refine then_normal ?_
  refine wp_block ?_
  refine cw_loop (fun mm a w => ∃ (i : Int), mm = ((d.n - i).toNat) ∧ (0 ≤ i) ∧ (i ≤ d.n) ∧ (∀ k, 0 ≤ k → k < i → ¬ (d.great s k)) ∧ Fr a 19 [(0, vD), (1, .func (.func 35) #[] #[.pointer (some a1), .pointer (some a2)]), (7, .int .i64 d.n), (8, .int .i64 i)] ∧ Sat w0 w []) ?_ ?_ (m := ((d.n - 0).toNat))
  ·
   refine ⟨0, rfl, (by omega), (by omega), ?_, (hF.pick (hF.pick (hF.pick (hF.pick hF.nil 8 rfl) 7 rfl) 1 rfl) 0 rfl), hS⟩
   ·
    intro k h0 h1; omega
  ·
   clear hF hS a w
   rintro mm a w ⟨i, rfl, h0, h1, hall, hF, hS⟩
   refine cw_seq ?_
   refine wp_region_lit ?_
   refine ls_val hF (.free rfl) rfl rfl (ex_lss rfl rfl rfl) ?_; clear hF a; intro a hF
   refine ls_nil ?_
   refine then_normal ?_
   refine cw_seq ?_
   refine cw_if hF rfl (fun hc => ?_) (fun hc => ?_)
   ·
    refine wp_skip ?_
    refine then_normal ?_
    refine cw_seq ?_
    refine wp_block ?_
    refine cw_seq ?_
    refine wp_region_lit ?_
    refine ls_val hF (.free rfl) rfl rfl (ex_move rfl rfl) ?_; clear hF a; intro a hF
    refine ls_val hF (.free rfl) rfl rfl (ex_assign rfl rfl) ?_; clear hF a; intro a hF
    refine ls_nil ?_
    refine then_normal ?_
    refine cw_seq ?_
    refine wp_region_lit ?_
    refine ls_val hF (.free rfl) rfl rfl (ex_move rfl rfl) ?_; clear hF a; intro a hF
    refine ls_val hF (.free rfl) rfl rfl (ex_move rfl rfl) ?_; clear hF a; intro a hF
    refine ls_val hF (.free rfl) rfl rfl (ex_move rfl rfl) ?_; clear hF a; intro a hF
    refine ls_val hF (.free rfl) rfl rfl (ex_index (k := 3 * i) rfl sl_38 rfl rfl hD.row.slh (by omega) (by omega) (by omega)) ?_; clear hF a; intro a hF
    refine ls_val hF (.free rfl) rfl rfl (ex_loads_row (cs := [.int .i64 (d.W i), .int .i64 (d.H i), .int .i64 (d.N i)]) rfl st_60 rfl (hD.row.below hS.below) (by omega) (by omega) rfl (by omega) (dcells_at d.W d.H d.N (by omega))) ?_; clear hF a; intro a hF
    have hbv := hD.bw i
    have hbv := hD.bh i
    have hbv := hD.bn i
    refine ls_call hF (.free rfl) rfl rfl (ex_callc rfl rfl cl_35 (args_cons rfl args0)) (c_great (d := d) (i := i) (s := s) w (hS.ref hp1) (hS.ref hp2)) ?_; clear hF; rintro _ w ⟨rfl, hS'⟩ a hF
    replace hS : Sat w0 w [] := hS.comp hS'; clear hS'
    refine ls_nil ?_
    refine then_normal ?_
    refine cw_if hF rfl (fun hc => ?_) (fun hc => ?_)
    ·
     refine cw_seq ?_
     refine wp_region_lit ?_
     refine ls_val hF (.free rfl) rfl rfl (ex_move rfl rfl) ?_; clear hF a; intro a hF
     refine ls_val hF (.free rfl) rfl rfl (ex_assign rfl rfl) ?_; clear hF a; intro a hF
     refine ls_nil ?_
     refine then_normal ?_
     refine wp_ret ?_
     refine inb_ret (then_ret (then_ret (inb_ret (then_ret ((fin1 hF rfl rfl ⟨_, rfl, ?_⟩))))))
     exact ⟨i, rfl, .inr ⟨by omega, by omega, ‹d.great s i›⟩, hS⟩
    ·
     refine wp_skip ?_
     refine inb_normal ?_
     refine then_normal ?_
     refine wp_region_lit ?_
     refine ls_val hF (.free rfl) rfl rfl (ex_add (r := i + 1) rfl rfl rfl (by omega) (by unfold I64; omega)) ?_; clear hF a; intro a hF
     refine ls_val hF (.free rfl) rfl rfl (ex_move rfl rfl) ?_; clear hF a; intro a hF
     refine ls_nil ?_
     refine then_normal ?_
     refine ⟨_, (by omega), i + 1, rfl, (by omega), (by omega), ?_, (hF.pick (hF.pick (hF.pick (hF.pick hF.nil 8 rfl) 7 rfl) 1 rfl) 0 rfl), hS⟩
     ·
      intro k h0' h1'; rcases Int.lt_or_eq_of_le (show k ≤ i by omega) with hk | hk; exact hall k h0' hk; rw [hk]; assumption
   ·
    refine wp_exit ?_
    refine then_exit ?_
    refine then_exit ?_
    refine inb_hit ?_
    refine then_normal ?_
    refine cw_seq ?_
    refine wp_region_lit ?_
    refine ls_val hF (.free rfl) rfl rfl (ex_assign rfl rfl) ?_; clear hF a; intro a hF
    refine ls_nil ?_
    refine then_normal ?_
    refine wp_ret ?_
    refine (fin1 hF rfl rfl ⟨_, rfl, ?_⟩)
    exact ⟨-1, rfl, .inl ⟨rfl, fun k h0 h1 => hall k h0 (by omega)⟩, hS⟩

theorem c_contains2 {vD : Value} {d : Dem} {s : Sht} {a1 a2 : Addr} (w0 : World) (hD : DAt w0 vD d.n d.W d.H d.N) (hp1 : w0.cell? a1 = some (.int .i64 s.w)) (hp2 : w0.cell? a2 = some (.int .i64 s.h)) :
    Calls Try.prog 36 [vD, .func (.func 35) #[] #[.pointer (some a1), .pointer (some a2)]].toArray w0 fun e w => ∃ v, e = .returned v ∧ v = B (∃ k, 0 ≤ k ∧ k < d.n ∧ (d.great s k)) ∧ Sat w0 w [] := by
  refine enterS (vs := [vD, .func (.func 35) #[] #[.pointer (some a1), .pointer (some a2)]]) Try.func36 rfl Try.ntmps36 rfl ?_
  intro a w hS hF
  refine cw_seq ?_
  refine wp_region_lit ?_
  refine ls_val hF (.free rfl) rfl rfl (ex_assign rfl rfl) ?_; clear hF a; intro a hF
  refine ls_nil ?_
  refine then_normal ?_
  refine cw_seq ?_
  refine wp_region_lit ?_
  refine ls_val hF (.free rfl) rfl rfl (ex_move rfl rfl) ?_; clear hF a; intro a hF
  refine ls_val hF (.free rfl) rfl rfl (ex_move rfl rfl) ?_; clear hF a; intro a hF
  refine ls_call hF (.free rfl) rfl rfl (ex_call0 rfl rfl cl_43 (args_cons rfl (args_cons rfl args0))) (c_index2 w (hD.below hS.below) (hS.ref hp1) (hS.ref hp2)) ?_; clear hF; rintro _ w ⟨r1, rfl, hr1, hS'⟩ a hF
  replace hS : Sat w0 w [] := hS.comp hS'; clear hS'
  refine ls_val hF (.free rfl) rfl rfl (ex_geq rfl rfl rfl) ?_; clear hF a; intro a hF
  refine ls_val hF (.free rfl) rfl rfl (ex_assign rfl rfl) ?_; clear hF a; intro a hF
  refine ls_nil ?_
  refine then_normal ?_
  refine wp_ret ?_
  refine (fin1 hF rfl rfl ⟨_, rfl, ?_⟩)
  exact ⟨B_congr (by
   rcases hr1 with ⟨h1, h2⟩ | ⟨h1, h2, h3⟩
   · exact ⟨fun h => by omega, fun ⟨k, h4, h5, h6⟩ => absurd h6 (h2 k h4 h5)⟩
   · exact ⟨fun _ => ⟨_, h1, h2, h3⟩, fun _ => h1⟩), hS⟩

set_option maxRecDepth 20000 in
theorem c_check {vD : Value} {d : Dem} {s : Sht} (w0 : World) (hD : DAt w0 vD d.n d.W d.H d.N) (hs : (-9223372036854775808 ≤ s.w ∧ s.w ≤ 9223372036854775807) ∧ (-9223372036854775808 ≤ s.h ∧ s.h ≤ 9223372036854775807) ∧ (-9223372036854775808 ≤ s.kf ∧ s.kf ≤ 9223372036854775807)) :
    Calls Try.prog 23 [vD, .int .i64 s.w, .int .i64 s.h, .int .i64 s.kf].toArray w0 fun e w => ∃ v, e = .returned v ∧ ∃ e, v = .int .i64 e ∧ ChkD d s e ∧ Sat w0 w [] := by
  have hn := hD.row.slh.n0
  refine enterS (vs := [vD, .int .i64 s.w, .int .i64 s.h, .int .i64 s.kf]) Try.func23 rfl Try.ntmps23 rfl ?_
  intro a w hS hF
  refine cw_seq ?_
  refine wp_region_lit ?_
  refine ls_any hF (.free rfl) rfl rfl (ex_box (cs := [.int .i64 s.w]) rfl hS rfl rfl) ?_; clear hF; rintro _ w ⟨g1, rfl, hS⟩ a hF
  replace hS : Sat w0 w [.blk g1 [.int .i64 s.w]] := hS
  refine ls_any hF (.free rfl) rfl rfl (ex_box (cs := [.int .i64 s.h]) rfl hS rfl rfl) ?_; clear hF; rintro _ w ⟨g2, rfl, hS⟩ a hF
  replace hS : Sat w0 w [.blk g1 [.int .i64 s.w], .blk g2 [.int .i64 s.h]] := hS
  refine ls_val hF (.free rfl) rfl rfl (ex_assign rfl rfl) ?_; clear hF a; intro a hF
  refine ls_nil ?_
  refine then_normal ?_
  refine cw_seq ?_
  refine wp_region_lit ?_
  refine ls_val hF (.free rfl) rfl rfl (ex_assign rfl rfl) ?_; clear hF a; intro a hF
  refine ls_nil ?_
  refine then_normal ?_
  refine cw_seq ?_
  refine wp_region_lit ?_
  refine ls_val hF (.free rfl) rfl rfl (ex_makeFunc rfl (args_cons rfl (args_cons rfl args0))) ?_; clear hF a; intro a hF
  refine ls_val hF (.free rfl) rfl rfl (ex_assign rfl rfl) ?_; clear hF a; intro a hF
  refine ls_nil ?_
  refine then_normal ?_
  refine cw_seq ?_
  refine wp_block ?_
  refine cw_seq ?_
  refine wp_region_lit ?_
  refine ls_val hF (.free rfl) rfl rfl (ex_move rfl rfl) ?_; clear hF a; intro a hF
  refine ls_val hF (.free rfl) rfl rfl (ex_len rfl sl_38 rfl hD.row.slh) ?_; clear hF a; intro a hF
  refine ls_val hF (.free rfl) rfl rfl (ex_gtr rfl rfl rfl) ?_; clear hF a; intro a hF
  refine ls_val hF (.free rfl) rfl rfl (ex_move rfl rfl) ?_; clear hF a; intro a hF
  refine by_slot hF (d := 16) rfl ?_ ?_ <;> clear hF <;> intro hc hF
  ·
   refine ls_off hF (.on rfl rfl rfl rfl rfl) rfl rfl ?_; clear hF a; intro a hF
   refine ls_off hF (.on rfl rfl rfl rfl rfl) rfl rfl ?_; clear hF a; intro a hF
   refine ls_off hF (.on rfl rfl rfl rfl rfl) rfl rfl ?_; clear hF a; intro a hF
   refine ls_val hF (.free rfl) rfl rfl (ex_pick_t rfl rfl rfl) ?_; clear hF a; intro a hF
   refine ls_val hF (.free rfl) rfl rfl (ex_move rfl rfl) ?_; clear hF a; intro a hF
   refine ls_off hF (.on rfl rfl rfl rfl rfl) rfl rfl ?_; clear hF a; intro a hF
   refine ls_off hF (.on rfl rfl rfl rfl rfl) rfl rfl ?_; clear hF a; intro a hF
   refine ls_off hF (.on rfl rfl rfl rfl rfl) rfl rfl ?_; clear hF a; intro a hF
   refine ls_val hF (.free rfl) rfl rfl (ex_pick_t rfl rfl rfl) ?_; clear hF a; intro a hF
   refine ls_val hF (.free rfl) rfl rfl (ex_move rfl rfl) ?_; clear hF a; intro a hF
   refine ls_off hF (.on rfl rfl rfl rfl rfl) rfl rfl ?_; clear hF a; intro a hF
   refine ls_off hF (.on rfl rfl rfl rfl rfl) rfl rfl ?_; clear hF a; intro a hF
   refine ls_off hF (.on rfl rfl rfl rfl rfl) rfl rfl ?_; clear hF a; intro a hF
   refine ls_val hF (.free rfl) rfl rfl (ex_pick_t rfl rfl rfl) ?_; clear hF a; intro a hF
   refine ls_val hF (.free rfl) rfl rfl (ex_move rfl rfl) ?_; clear hF a; intro a hF
   refine ls_off hF (.on rfl rfl rfl rfl rfl) rfl rfl ?_; clear hF a; intro a hF
   refine ls_off hF (.on rfl rfl rfl rfl rfl) rfl rfl ?_; clear hF a; intro a hF
   refine ls_off hF (.on rfl rfl rfl rfl rfl) rfl rfl ?_; clear hF a; intro a hF
   refine ls_val hF (.free rfl) rfl rfl (ex_pick_t rfl rfl rfl) ?_; clear hF a; intro a hF
   refine ls_val hF (.free rfl) rfl rfl (ex_assign rfl rfl) ?_; clear hF a; intro a hF
   refine ls_nil ?_
   refine then_normal ?_
   refine cw_t hF rfl ?_
   refine cw_seq ?_
   refine wp_region_lit ?_
   refine ls_val hF (.free rfl) rfl rfl (ex_assign rfl rfl) ?_; clear hF a; intro a hF
   refine ls_nil ?_
   refine then_normal ?_
   refine wp_ret ?_
   refine inb_ret (then_ret ((fin1 hF rfl rfl ⟨_, rfl, ?_⟩)))
   first
   | exact ⟨1, rfl, .inl ⟨fun hk => by have b1 := hk.few; have b2 := hk.w1; have b3 := hk.w2; have b4 := hk.h1; have b5 := hk.h2; have b6 := hk.k1; have b7 := hk.k2; omega, rfl⟩, hS.sub (.cons _ (.cons _ .slnil))⟩
   | exact ⟨1, rfl, .inl ⟨fun hk => by obtain ⟨k, k0, k1, k2⟩ := ‹∃ k, 0 ≤ k ∧ k < d.n ∧ (¬ d.each k)›; exact k2 (hk.all k k0 k1), rfl⟩, hS.sub (.cons _ (.cons _ .slnil))⟩
  ·
   refine ls_val hF (.on rfl rfl rfl rfl rfl) rfl rfl (ex_move rfl rfl) ?_; clear hF a; intro a hF
   refine ls_val hF (.on rfl rfl rfl rfl rfl) rfl rfl (ex_move rfl rfl) ?_; clear hF a; intro a hF
   refine ls_call hF (.on rfl rfl rfl rfl rfl) rfl rfl (ex_call0 rfl rfl cl_36 (args_cons rfl (args_cons rfl args0))) (c_contains1 w (hD.below hS.below)) ?_; clear hF; rintro _ w ⟨rfl, hS'⟩ a hF
   replace hS : Sat w0 w [.blk g1 [.int .i64 s.w], .blk g2 [.int .i64 s.h]] := hS.comp hS'; clear hS'
   refine ls_val hF (.free rfl) rfl rfl (ex_pick_f rfl rfl rfl) ?_; clear hF a; intro a hF
   refine ls_val hF (.free rfl) rfl rfl (ex_move rfl rfl) ?_; clear hF a; intro a hF
   refine by_slot hF (d := 21) rfl ?_ ?_ <;> clear hF <;> intro hc hF
   ·
    refine ls_off hF (.on rfl rfl rfl rfl rfl) rfl rfl ?_; clear hF a; intro a hF
    refine ls_off hF (.on rfl rfl rfl rfl rfl) rfl rfl ?_; clear hF a; intro a hF
    refine ls_off hF (.on rfl rfl rfl rfl rfl) rfl rfl ?_; clear hF a; intro a hF
    refine ls_val hF (.free rfl) rfl rfl (ex_pick_t rfl rfl rfl) ?_; clear hF a; intro a hF
    refine ls_val hF (.free rfl) rfl rfl (ex_move rfl rfl) ?_; clear hF a; intro a hF
    refine ls_off hF (.on rfl rfl rfl rfl rfl) rfl rfl ?_; clear hF a; intro a hF
    refine ls_off hF (.on rfl rfl rfl rfl rfl) rfl rfl ?_; clear hF a; intro a hF
    refine ls_off hF (.on rfl rfl rfl rfl rfl) rfl rfl ?_; clear hF a; intro a hF
    refine ls_val hF (.free rfl) rfl rfl (ex_pick_t rfl rfl rfl) ?_; clear hF a; intro a hF
    refine ls_val hF (.free rfl) rfl rfl (ex_move rfl rfl) ?_; clear hF a; intro a hF
    refine ls_off hF (.on rfl rfl rfl rfl rfl) rfl rfl ?_; clear hF a; intro a hF
    refine ls_off hF (.on rfl rfl rfl rfl rfl) rfl rfl ?_; clear hF a; intro a hF
    refine ls_off hF (.on rfl rfl rfl rfl rfl) rfl rfl ?_; clear hF a; intro a hF
    refine ls_val hF (.free rfl) rfl rfl (ex_pick_t rfl rfl rfl) ?_; clear hF a; intro a hF
    refine ls_val hF (.free rfl) rfl rfl (ex_assign rfl rfl) ?_; clear hF a; intro a hF
    refine ls_nil ?_
    refine then_normal ?_
    refine cw_t hF rfl ?_
    refine cw_seq ?_
    refine wp_region_lit ?_
    refine ls_val hF (.free rfl) rfl rfl (ex_assign rfl rfl) ?_; clear hF a; intro a hF
    refine ls_nil ?_
    refine then_normal ?_
    refine wp_ret ?_
    refine inb_ret (then_ret ((fin1 hF rfl rfl ⟨_, rfl, ?_⟩)))
    first
    | exact ⟨1, rfl, .inl ⟨fun hk => by have b1 := hk.few; have b2 := hk.w1; have b3 := hk.w2; have b4 := hk.h1; have b5 := hk.h2; have b6 := hk.k1; have b7 := hk.k2; omega, rfl⟩, hS.sub (.cons _ (.cons _ .slnil))⟩
    | exact ⟨1, rfl, .inl ⟨fun hk => by obtain ⟨k, k0, k1, k2⟩ := ‹∃ k, 0 ≤ k ∧ k < d.n ∧ (¬ d.each k)›; exact k2 (hk.all k k0 k1), rfl⟩, hS.sub (.cons _ (.cons _ .slnil))⟩
   ·
    refine ls_val hF (.on rfl rfl rfl rfl rfl) rfl rfl (ex_load_blk 0 rfl pl_3 rfl hS rfl rfl) ?_; clear hF a; intro a hF
    refine ls_call hF (.on rfl rfl rfl rfl rfl) rfl rfl (ex_call0 rfl rfl cl_32 (args_cons rfl (args_cons rfl (args_cons rfl args0)))) (c_in w) ?_; clear hF; rintro _ w ⟨rfl, hS'⟩ a hF
    replace hS : Sat w0 w [.blk g1 [.int .i64 s.w], .blk g2 [.int .i64 s.h]] := hS.comp hS'; clear hS'
    refine ls_val hF (.on rfl rfl rfl rfl rfl) rfl rfl (ex_not rfl rfl) ?_; clear hF a; intro a hF
    refine ls_val hF (.free rfl) rfl rfl (ex_pick_f rfl rfl rfl) ?_; clear hF a; intro a hF
    refine ls_val hF (.free rfl) rfl rfl (ex_move rfl rfl) ?_; clear hF a; intro a hF
    refine by_slot hF (d := 26) rfl ?_ ?_ <;> clear hF <;> intro hc hF
    ·
     refine ls_off hF (.on rfl rfl rfl rfl rfl) rfl rfl ?_; clear hF a; intro a hF
     refine ls_off hF (.on rfl rfl rfl rfl rfl) rfl rfl ?_; clear hF a; intro a hF
     refine ls_off hF (.on rfl rfl rfl rfl rfl) rfl rfl ?_; clear hF a; intro a hF
     refine ls_val hF (.free rfl) rfl rfl (ex_pick_t rfl rfl rfl) ?_; clear hF a; intro a hF
     refine ls_val hF (.free rfl) rfl rfl (ex_move rfl rfl) ?_; clear hF a; intro a hF
     refine ls_off hF (.on rfl rfl rfl rfl rfl) rfl rfl ?_; clear hF a; intro a hF
     refine ls_off hF (.on rfl rfl rfl rfl rfl) rfl rfl ?_; clear hF a; intro a hF
     refine ls_off hF (.on rfl rfl rfl rfl rfl) rfl rfl ?_; clear hF a; intro a hF
     refine ls_val hF (.free rfl) rfl rfl (ex_pick_t rfl rfl rfl) ?_; clear hF a; intro a hF
     refine ls_val hF (.free rfl) rfl rfl (ex_assign rfl rfl) ?_; clear hF a; intro a hF
     refine ls_nil ?_
     refine then_normal ?_
     refine cw_t hF rfl ?_
     refine cw_seq ?_
     refine wp_region_lit ?_
     refine ls_val hF (.free rfl) rfl rfl (ex_assign rfl rfl) ?_; clear hF a; intro a hF
     refine ls_nil ?_
     refine then_normal ?_
     refine wp_ret ?_
     refine inb_ret (then_ret ((fin1 hF rfl rfl ⟨_, rfl, ?_⟩)))
     first
     | exact ⟨1, rfl, .inl ⟨fun hk => by have b1 := hk.few; have b2 := hk.w1; have b3 := hk.w2; have b4 := hk.h1; have b5 := hk.h2; have b6 := hk.k1; have b7 := hk.k2; omega, rfl⟩, hS.sub (.cons _ (.cons _ .slnil))⟩
     | exact ⟨1, rfl, .inl ⟨fun hk => by obtain ⟨k, k0, k1, k2⟩ := ‹∃ k, 0 ≤ k ∧ k < d.n ∧ (¬ d.each k)›; exact k2 (hk.all k k0 k1), rfl⟩, hS.sub (.cons _ (.cons _ .slnil))⟩
    ·
     refine ls_val hF (.on rfl rfl rfl rfl rfl) rfl rfl (ex_load_blk 1 rfl pl_3 rfl hS rfl rfl) ?_; clear hF a; intro a hF
     refine ls_call hF (.on rfl rfl rfl rfl rfl) rfl rfl (ex_call0 rfl rfl cl_32 (args_cons rfl (args_cons rfl (args_cons rfl args0)))) (c_in w) ?_; clear hF; rintro _ w ⟨rfl, hS'⟩ a hF
     replace hS : Sat w0 w [.blk g1 [.int .i64 s.w], .blk g2 [.int .i64 s.h]] := hS.comp hS'; clear hS'
     refine ls_val hF (.on rfl rfl rfl rfl rfl) rfl rfl (ex_not rfl rfl) ?_; clear hF a; intro a hF
     refine ls_val hF (.free rfl) rfl rfl (ex_pick_f rfl rfl rfl) ?_; clear hF a; intro a hF
     refine ls_val hF (.free rfl) rfl rfl (ex_move rfl rfl) ?_; clear hF a; intro a hF
     refine by_slot hF (d := 31) rfl ?_ ?_ <;> clear hF <;> intro hc hF
     ·
      refine ls_off hF (.on rfl rfl rfl rfl rfl) rfl rfl ?_; clear hF a; intro a hF
      refine ls_off hF (.on rfl rfl rfl rfl rfl) rfl rfl ?_; clear hF a; intro a hF
      refine ls_off hF (.on rfl rfl rfl rfl rfl) rfl rfl ?_; clear hF a; intro a hF
      refine ls_val hF (.free rfl) rfl rfl (ex_pick_t rfl rfl rfl) ?_; clear hF a; intro a hF
      refine ls_val hF (.free rfl) rfl rfl (ex_assign rfl rfl) ?_; clear hF a; intro a hF
      refine ls_nil ?_
      refine then_normal ?_
      refine cw_t hF rfl ?_
      refine cw_seq ?_
      refine wp_region_lit ?_
      refine ls_val hF (.free rfl) rfl rfl (ex_assign rfl rfl) ?_; clear hF a; intro a hF
      refine ls_nil ?_
      refine then_normal ?_
      refine wp_ret ?_
      refine inb_ret (then_ret ((fin1 hF rfl rfl ⟨_, rfl, ?_⟩)))
      first
      | exact ⟨1, rfl, .inl ⟨fun hk => by have b1 := hk.few; have b2 := hk.w1; have b3 := hk.w2; have b4 := hk.h1; have b5 := hk.h2; have b6 := hk.k1; have b7 := hk.k2; omega, rfl⟩, hS.sub (.cons _ (.cons _ .slnil))⟩
      | exact ⟨1, rfl, .inl ⟨fun hk => by obtain ⟨k, k0, k1, k2⟩ := ‹∃ k, 0 ≤ k ∧ k < d.n ∧ (¬ d.each k)›; exact k2 (hk.all k k0 k1), rfl⟩, hS.sub (.cons _ (.cons _ .slnil))⟩
     ·
      refine ls_val hF (.on rfl rfl rfl rfl rfl) rfl rfl (ex_move rfl rfl) ?_; clear hF a; intro a hF
      refine ls_call hF (.on rfl rfl rfl rfl rfl) rfl rfl (ex_call0 rfl rfl cl_32 (args_cons rfl (args_cons rfl (args_cons rfl args0)))) (c_in w) ?_; clear hF; rintro _ w ⟨rfl, hS'⟩ a hF
      replace hS : Sat w0 w [.blk g1 [.int .i64 s.w], .blk g2 [.int .i64 s.h]] := hS.comp hS'; clear hS'
      refine ls_val hF (.on rfl rfl rfl rfl rfl) rfl rfl (ex_not rfl rfl) ?_; clear hF a; intro a hF
      refine ls_val hF (.free rfl) rfl rfl (ex_pick_f rfl rfl rfl) ?_; clear hF a; intro a hF
      refine ls_val hF (.free rfl) rfl rfl (ex_assign rfl rfl) ?_; clear hF a; intro a hF
      refine ls_nil ?_
      refine then_normal ?_
      refine cw_if hF rfl (fun hc => ?_) (fun hc => ?_)
      ·
       refine cw_seq ?_
       refine wp_region_lit ?_
       refine ls_val hF (.free rfl) rfl rfl (ex_assign rfl rfl) ?_; clear hF a; intro a hF
       refine ls_nil ?_
       refine then_normal ?_
       refine wp_ret ?_
       refine inb_ret (then_ret ((fin1 hF rfl rfl ⟨_, rfl, ?_⟩)))
       first
       | exact ⟨1, rfl, .inl ⟨fun hk => by have b1 := hk.few; have b2 := hk.w1; have b3 := hk.w2; have b4 := hk.h1; have b5 := hk.h2; have b6 := hk.k1; have b7 := hk.k2; omega, rfl⟩, hS.sub (.cons _ (.cons _ .slnil))⟩
       | exact ⟨1, rfl, .inl ⟨fun hk => by obtain ⟨k, k0, k1, k2⟩ := ‹∃ k, 0 ≤ k ∧ k < d.n ∧ (¬ d.each k)›; exact k2 (hk.all k k0 k1), rfl⟩, hS.sub (.cons _ (.cons _ .slnil))⟩
      ·
       refine cw_seq ?_
       refine wp_region_lit ?_
       refine ls_val hF (.free rfl) rfl rfl (ex_move rfl rfl) ?_; clear hF a; intro a hF
       refine ls_val hF (.free rfl) rfl rfl (ex_move rfl rfl) ?_; clear hF a; intro a hF
       refine ls_call hF (.free rfl) rfl rfl (ex_call0 rfl rfl cl_36 (args_cons rfl (args_cons rfl args0))) (c_contains2 (s := s) w (hD.below hS.below) (hS.cellN 0 rfl rfl) (hS.cellN 1 rfl rfl)) ?_; clear hF; rintro _ w ⟨rfl, hS'⟩ a hF
       replace hS : Sat w0 w [.blk g1 [.int .i64 s.w], .blk g2 [.int .i64 s.h]] := hS.comp hS'; clear hS'
       refine ls_val hF (.free rfl) rfl rfl (ex_assign rfl rfl) ?_; clear hF a; intro a hF
       refine ls_nil ?_
       refine then_normal ?_
       refine cw_if hF rfl (fun hc => ?_) (fun hc => ?_)
       ·
        refine cw_seq ?_
        refine wp_region_lit ?_
        refine ls_val hF (.free rfl) rfl rfl (ex_assign rfl rfl) ?_; clear hF a; intro a hF
        refine ls_nil ?_
        refine then_normal ?_
        refine wp_ret ?_
        refine inb_ret (then_ret ((fin1 hF rfl rfl ⟨_, rfl, ?_⟩)))
        exact ⟨19, rfl, .inr (.inl ⟨⟨by omega, by omega, by omega, by omega, by omega, by omega, by omega, fun i h0 h1 => Classical.not_not.1 fun hh => ‹¬ ∃ k, 0 ≤ k ∧ k < d.n ∧ (¬ d.each k)› ⟨i, h0, h1, hh⟩⟩, ‹∃ k, 0 ≤ k ∧ k < d.n ∧ (d.great s k)›, rfl⟩), hS.sub (.cons _ (.cons _ .slnil))⟩
       ·
        refine wp_skip ?_
        refine inb_normal ?_
        refine then_normal ?_
        refine cw_seq ?_
        refine wp_region_lit ?_
        refine ls_val hF (.free rfl) rfl rfl (ex_assign rfl rfl) ?_; clear hF a; intro a hF
        refine ls_nil ?_
        refine then_normal ?_
        refine wp_ret ?_
        refine (fin1 hF rfl rfl ⟨_, rfl, ?_⟩)
        exact ⟨0, rfl, .inr (.inr ⟨⟨by omega, by omega, by omega, by omega, by omega, by omega, by omega, fun i h0 h1 => Classical.not_not.1 fun hh => ‹¬ ∃ k, 0 ≤ k ∧ k < d.n ∧ (¬ d.each k)› ⟨i, h0, h1, hh⟩⟩, ‹¬ ∃ k, 0 ≤ k ∧ k < d.n ∧ (d.great s k)›, rfl⟩), hS.sub (.cons _ (.cons _ .slnil))⟩

end Go.Proofs.Ytmlfpniaknmmfaa
