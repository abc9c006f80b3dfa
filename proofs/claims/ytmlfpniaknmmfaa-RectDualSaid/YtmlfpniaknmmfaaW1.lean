/- The walks of the dual feasible functions, of rectbound and of its reference. -/
import Derived.Test.YtmlfpniaknmmfaaProg
import Derived.Test.YtmlfpniaknmmfaaFb
namespace Go.Proofs.Ytmlfpniaknmmfaa
open Go Go.RowKit Go.Proofs.Gw
set_option linter.unusedVariables false

theorem cl_24 : calledT Try.prog 24 = true := by kernel_rfl
theorem cl_27 : calledT Try.prog 27 = true := by kernel_rfl
theorem cl_32 : calledT Try.prog 32 = true := by kernel_rfl
theorem cl_33 : calledT Try.prog 33 = true := by kernel_rfl
theorem fd_105_0 : fieldT Try.prog 105 0 = some 0 := by kernel_rfl
theorem fd_106_0 : fieldT Try.prog 106 0 = some 0 := by kernel_rfl
theorem fd_107_0 : fieldT Try.prog 107 0 = some 0 := by kernel_rfl
theorem fd_26_0 : fieldT Try.prog 26 0 = some 0 := by kernel_rfl
theorem fd_26_1 : fieldT Try.prog 26 1 = some 1 := by kernel_rfl
theorem fd_34_0 : fieldT Try.prog 34 0 = some 0 := by kernel_rfl
theorem fd_34_1 : fieldT Try.prog 34 1 = some 1 := by kernel_rfl
theorem pl_3 : plainT Try.prog 3 = true := by kernel_rfl
theorem st_26 : structT Try.prog 26 = some 2 := by kernel_rfl
theorem st_34 : structT Try.prog 34 = some 2 := by kernel_rfl
theorem c_in {n lo hi : Int} (w0 : World) :
    Calls Try.prog 32 [.int .i64 n, .int .i64 lo, .int .i64 hi].toArray w0 fun e w => ∃ v, e = .returned v ∧ v = B (lo ≤ n ∧ n ≤ hi) ∧ Sat w0 w [] := by
  refine enterS (vs := [.int .i64 n, .int .i64 lo, .int .i64 hi]) Try.func32 rfl Try.ntmps32 rfl ?_
  intro a w hS hF
  refine cw_seq ?_
  refine wp_region_lit ?_
  refine ls_val hF (.free rfl) rfl rfl (ex_assign rfl rfl) ?_; clear hF a; intro a hF
  refine ls_nil ?_
  refine then_normal ?_
  refine cw_seq ?_
  refine wp_region_lit ?_
  refine ls_val hF (.free rfl) rfl rfl (ex_move rfl rfl) ?_; clear hF a; intro a hF
  refine ls_val hF (.free rfl) rfl rfl (ex_move rfl rfl) ?_; clear hF a; intro a hF
  refine ls_val hF (.free rfl) rfl rfl (ex_geq rfl rfl rfl) ?_; clear hF a; intro a hF
  refine ls_val hF (.free rfl) rfl rfl (ex_move rfl rfl) ?_; clear hF a; intro a hF
  refine by_slot hF (d := 10) rfl ?_ ?_ <;> clear hF <;> intro hc hF
  ·
   refine ls_val hF (.on rfl rfl rfl rfl rfl) rfl rfl (ex_move rfl rfl) ?_; clear hF a; intro a hF
   refine ls_val hF (.on rfl rfl rfl rfl rfl) rfl rfl (ex_move rfl rfl) ?_; clear hF a; intro a hF
   refine ls_val hF (.on rfl rfl rfl rfl rfl) rfl rfl (ex_leq rfl rfl rfl) ?_; clear hF a; intro a hF
   refine ls_val hF (.free rfl) rfl rfl (ex_pick_t rfl rfl rfl) ?_; clear hF a; intro a hF
   refine ls_val hF (.free rfl) rfl rfl (ex_assign rfl rfl) ?_; clear hF a; intro a hF
   refine ls_nil ?_
   refine then_normal ?_
   refine wp_ret ?_
   refine (fin1 hF rfl rfl ⟨_, rfl, ?_⟩)
   exact ⟨B_congr (by omega), hS⟩
  ·
   refine ls_off hF (.on rfl rfl rfl rfl rfl) rfl rfl ?_; clear hF a; intro a hF
   refine ls_off hF (.on rfl rfl rfl rfl rfl) rfl rfl ?_; clear hF a; intro a hF
   refine ls_off hF (.on rfl rfl rfl rfl rfl) rfl rfl ?_; clear hF a; intro a hF
   refine ls_val hF (.free rfl) rfl rfl (ex_pick_f rfl rfl rfl) ?_; clear hF a; intro a hF
   refine ls_val hF (.free rfl) rfl rfl (ex_assign rfl rfl) ?_; clear hF a; intro a hF
   refine ls_nil ?_
   refine then_normal ?_
   refine wp_ret ?_
   refine (fin1 hF rfl rfl ⟨_, rfl, ?_⟩)
   exact ⟨false_B (by omega), hS⟩

theorem v_plain {k c : Int} (w0 : World) (hc : 0 ≤ c) (hc2 : c ≤ 1000000) :
    Calls Try.prog 81 [.agg #[.int .i64 k], .int .i64 c].toArray w0 fun e w => ∃ v, e = .returned v ∧ v = B (okF 0 k c) ∧ Sat w0 w [] := by
  refine enterS (vs := [.agg #[.int .i64 k], .int .i64 c]) Try.func81 rfl Try.ntmps81 rfl ?_
  intro a w hS hF
  refine cw_seq ?_
  refine wp_region_lit ?_
  refine ls_any hF (.free rfl) rfl rfl (ex_box (cs := [.int .i64 k]) rfl hS rfl rfl) ?_; clear hF; rintro _ w ⟨g1, rfl, hS⟩ a hF
  replace hS : Sat w0 w [.blk g1 [.int .i64 k]] := hS
  refine ls_val hF (.free rfl) rfl rfl (ex_assign rfl rfl) ?_; clear hF a; intro a hF
  refine ls_nil ?_
  refine then_normal ?_
  refine cw_seq ?_
  refine wp_region_lit ?_
  refine ls_val hF (.free rfl) rfl rfl (ex_field (b := ⟨g1, 0, none⟩) rfl fd_105_0 rfl rfl) ?_; clear hF a; intro a hF
  refine ls_val hF (.free rfl) rfl rfl (ex_load_blk 0 rfl pl_3 rfl hS rfl rfl) ?_; clear hF a; intro a hF
  refine ls_val hF (.free rfl) rfl rfl (ex_eql rfl rfl rfl) ?_; clear hF a; intro a hF
  refine ls_val hF (.free rfl) rfl rfl (ex_assign rfl rfl) ?_; clear hF a; intro a hF
  refine ls_nil ?_
  refine then_normal ?_
  refine wp_ret ?_
  refine (fin1 hF rfl rfl ⟨_, rfl, ?_⟩)
  exact ⟨B_congr (by unfold okF; omega), hS.sub (.cons _ .slnil)⟩

theorem v_steps {k c : Int} (w0 : World) (hc : 0 ≤ c) (hc2 : c ≤ 1000000) :
    Calls Try.prog 83 [.agg #[.int .i64 k], .int .i64 c].toArray w0 fun e w => ∃ v, e = .returned v ∧ v = B (okF 1 k c) ∧ Sat w0 w [] := by
  refine enterS (vs := [.agg #[.int .i64 k], .int .i64 c]) Try.func83 rfl Try.ntmps83 rfl ?_
  intro a w hS hF
  refine cw_seq ?_
  refine wp_region_lit ?_
  refine ls_any hF (.free rfl) rfl rfl (ex_box (cs := [.int .i64 k]) rfl hS rfl rfl) ?_; clear hF; rintro _ w ⟨g1, rfl, hS⟩ a hF
  replace hS : Sat w0 w [.blk g1 [.int .i64 k]] := hS
  refine ls_val hF (.free rfl) rfl rfl (ex_assign rfl rfl) ?_; clear hF a; intro a hF
  refine ls_nil ?_
  refine then_normal ?_
  refine cw_seq ?_
  refine wp_region_lit ?_
  refine ls_val hF (.free rfl) rfl rfl (ex_field (b := ⟨g1, 0, none⟩) rfl fd_106_0 rfl rfl) ?_; clear hF a; intro a hF
  refine ls_val hF (.free rfl) rfl rfl (ex_load_blk 0 rfl pl_3 rfl hS rfl rfl) ?_; clear hF a; intro a hF
  refine ls_call hF (.free rfl) rfl rfl (ex_call0 rfl rfl cl_32 (args_cons rfl (args_cons rfl (args_cons rfl args0)))) (c_in w) ?_; clear hF; rintro _ w ⟨rfl, hS'⟩ a hF
  replace hS : Sat w0 w [.blk g1 [.int .i64 k]] := hS.comp hS'; clear hS'
  refine ls_val hF (.free rfl) rfl rfl (ex_assign rfl rfl) ?_; clear hF a; intro a hF
  refine ls_nil ?_
  refine then_normal ?_
  refine wp_ret ?_
  refine (fin1 hF rfl rfl ⟨_, rfl, ?_⟩)
  exact ⟨B_congr (by unfold okF; omega), hS.sub (.cons _ .slnil)⟩

theorem v_cut {k c : Int} (w0 : World) (hc : 0 ≤ c) (hc2 : c ≤ 1000000) :
    Calls Try.prog 85 [.agg #[.int .i64 k], .int .i64 c].toArray w0 fun e w => ∃ v, e = .returned v ∧ v = B (okF 2 k c) ∧ Sat w0 w [] := by
  have hh := half_facts hc
  refine enterS (vs := [.agg #[.int .i64 k], .int .i64 c]) Try.func85 rfl Try.ntmps85 rfl ?_
  intro a w hS hF
  refine cw_seq ?_
  refine wp_region_lit ?_
  refine ls_any hF (.free rfl) rfl rfl (ex_box (cs := [.int .i64 k]) rfl hS rfl rfl) ?_; clear hF; rintro _ w ⟨g1, rfl, hS⟩ a hF
  replace hS : Sat w0 w [.blk g1 [.int .i64 k]] := hS
  refine ls_val hF (.free rfl) rfl rfl (ex_assign rfl rfl) ?_; clear hF a; intro a hF
  refine ls_nil ?_
  refine then_normal ?_
  refine cw_seq ?_
  refine wp_region_lit ?_
  refine ls_val hF (.free rfl) rfl rfl (ex_field (b := ⟨g1, 0, none⟩) rfl fd_107_0 rfl rfl) ?_; clear hF a; intro a hF
  refine ls_val hF (.free rfl) rfl rfl (ex_load_blk 0 rfl pl_3 rfl hS rfl rfl) ?_; clear hF a; intro a hF
  refine ls_val hF (.free rfl) rfl rfl (ex_move rfl rfl) ?_; clear hF a; intro a hF
  refine ls_val hF (.free rfl) rfl rfl (ex_quo (r := (Int.tdiv c 2)) rfl rfl rfl (by omega) rfl (by unfold I64; omega)) ?_; clear hF a; intro a hF
  refine ls_call hF (.free rfl) rfl rfl (ex_call0 rfl rfl cl_32 (args_cons rfl (args_cons rfl (args_cons rfl args0)))) (c_in w) ?_; clear hF; rintro _ w ⟨rfl, hS'⟩ a hF
  replace hS : Sat w0 w [.blk g1 [.int .i64 k]] := hS.comp hS'; clear hS'
  refine ls_val hF (.free rfl) rfl rfl (ex_assign rfl rfl) ?_; clear hF a; intro a hF
  refine ls_nil ?_
  refine then_normal ?_
  refine wp_ret ?_
  refine (fin1 hF rfl rfl ⟨_, rfl, ?_⟩)
  exact ⟨B_congr (by unfold okF; omega), hS.sub (.cons _ .slnil)⟩

theorem a_plain {k x c : Int} (w0 : World) (hk : okF 0 k c) (hx : 0 ≤ x) (hxc : x ≤ c) (hc : 1 ≤ c) (hc2 : c ≤ 4000) :
    Calls Try.prog 82 [.agg #[.int .i64 k], .int .i64 x, .int .i64 c].toArray w0 fun e w => ∃ v, e = .returned v ∧ v = .int .i64 (dfv 0 k x c) ∧ Sat w0 w [] := by
  refine enterS (vs := [.agg #[.int .i64 k], .int .i64 x, .int .i64 c]) Try.func82 rfl Try.ntmps82 rfl ?_
  intro a w hS hF
  refine cw_seq ?_
  refine wp_region_lit ?_
  refine ls_any hF (.free rfl) rfl rfl (ex_box (cs := [.int .i64 k]) rfl hS rfl rfl) ?_; clear hF; rintro _ w ⟨g1, rfl, hS⟩ a hF
  replace hS : Sat w0 w [.blk g1 [.int .i64 k]] := hS
  refine ls_val hF (.free rfl) rfl rfl (ex_assign rfl rfl) ?_; clear hF a; intro a hF
  refine ls_nil ?_
  refine then_normal ?_
  refine cw_seq ?_
  refine wp_region_lit ?_
  refine ls_val hF (.free rfl) rfl rfl (ex_move rfl rfl) ?_; clear hF a; intro a hF
  refine ls_val hF (.free rfl) rfl rfl (ex_assign rfl rfl) ?_; clear hF a; intro a hF
  refine ls_nil ?_
  refine then_normal ?_
  refine wp_ret ?_
  refine (fin1 hF rfl rfl ⟨_, rfl, ?_⟩)
  first
  | exact ⟨congrArg (Value.int .i64) (dfv0).symm, hS.sub (.cons _ .slnil)⟩

theorem a_steps {k x c : Int} (w0 : World) (hk : okF 1 k c) (hx : 0 ≤ x) (hxc : x ≤ c) (hc : 1 ≤ c) (hc2 : c ≤ 4000) :
    Calls Try.prog 84 [.agg #[.int .i64 k], .int .i64 x, .int .i64 c].toArray w0 fun e w => ∃ v, e = .returned v ∧ v = .int .i64 (dfv 1 k x c) ∧ Sat w0 w [] := by
  have hs := step_facts (k := k) (by unfold okF at hk; omega) hx hxc hc hc2; have hk2 : 1 ≤ k ∧ k ≤ 100 := by unfold okF at hk; omega
  refine enterS (vs := [.agg #[.int .i64 k], .int .i64 x, .int .i64 c]) Try.func84 rfl Try.ntmps84 rfl ?_
  intro a w hS hF
  refine cw_seq ?_
  refine wp_region_lit ?_
  refine ls_any hF (.free rfl) rfl rfl (ex_box (cs := [.int .i64 k]) rfl hS rfl rfl) ?_; clear hF; rintro _ w ⟨g1, rfl, hS⟩ a hF
  replace hS : Sat w0 w [.blk g1 [.int .i64 k]] := hS
  refine ls_val hF (.free rfl) rfl rfl (ex_assign rfl rfl) ?_; clear hF a; intro a hF
  refine ls_nil ?_
  refine then_normal ?_
  refine cw_seq ?_
  refine cw_seq ?_
  refine wp_region_lit ?_
  refine ls_val hF (.free rfl) rfl rfl (ex_field (b := ⟨g1, 0, none⟩) rfl fd_106_0 rfl rfl) ?_; clear hF a; intro a hF
  refine ls_val hF (.free rfl) rfl rfl (ex_load_blk 0 rfl pl_3 rfl hS rfl rfl) ?_; clear hF a; intro a hF
  refine ls_val hF (.free rfl) rfl rfl (ex_add (r := k + 1) rfl rfl rfl (by omega) (by unfold I64; omega)) ?_; clear hF a; intro a hF
  refine ls_val hF (.free rfl) rfl rfl (ex_move rfl rfl) ?_; clear hF a; intro a hF
  refine ls_val hF (.free rfl) rfl rfl (ex_mul (r := ((k + 1) * x)) rfl rfl rfl rfl (by unfold I64; omega)) ?_; clear hF a; intro a hF
  refine ls_val hF (.free rfl) rfl rfl (ex_move rfl rfl) ?_; clear hF a; intro a hF
  refine ls_val hF (.free rfl) rfl rfl (ex_rem (r := (Int.tmod ((k + 1) * x) c)) rfl rfl rfl (by omega) rfl) ?_; clear hF a; intro a hF
  refine ls_val hF (.free rfl) rfl rfl (ex_eql rfl rfl rfl) ?_; clear hF a; intro a hF
  refine ls_nil ?_
  refine then_normal ?_
  refine cw_if hF rfl (fun hc => ?_) (fun hc => ?_)
  ·
   refine cw_seq ?_
   refine wp_region_lit ?_
   refine ls_val hF (.free rfl) rfl rfl (ex_field (b := ⟨g1, 0, none⟩) rfl fd_106_0 rfl rfl) ?_; clear hF a; intro a hF
   refine ls_val hF (.free rfl) rfl rfl (ex_load_blk 0 rfl pl_3 rfl hS rfl rfl) ?_; clear hF a; intro a hF
   refine ls_val hF (.free rfl) rfl rfl (ex_move rfl rfl) ?_; clear hF a; intro a hF
   refine ls_val hF (.free rfl) rfl rfl (ex_mul (r := (k * x)) rfl rfl rfl rfl (by unfold I64; omega)) ?_; clear hF a; intro a hF
   refine ls_val hF (.free rfl) rfl rfl (ex_assign rfl rfl) ?_; clear hF a; intro a hF
   refine ls_nil ?_
   refine then_normal ?_
   refine wp_ret ?_
   refine then_ret ((fin1 hF rfl rfl ⟨_, rfl, ?_⟩))
   first
   | exact ⟨congrArg (Value.int .i64) (dfv1a ‹_›).symm, hS.sub (.cons _ .slnil)⟩
   | exact ⟨congrArg (Value.int .i64) (dfv1b ‹_›).symm, hS.sub (.cons _ .slnil)⟩
  ·
   refine wp_skip ?_
   refine then_normal ?_
   refine cw_seq ?_
   refine wp_region_lit ?_
   refine ls_val hF (.free rfl) rfl rfl (ex_field (b := ⟨g1, 0, none⟩) rfl fd_106_0 rfl rfl) ?_; clear hF a; intro a hF
   refine ls_val hF (.free rfl) rfl rfl (ex_load_blk 0 rfl pl_3 rfl hS rfl rfl) ?_; clear hF a; intro a hF
   refine ls_val hF (.free rfl) rfl rfl (ex_add (r := k + 1) rfl rfl rfl (by omega) (by unfold I64; omega)) ?_; clear hF a; intro a hF
   refine ls_val hF (.free rfl) rfl rfl (ex_move rfl rfl) ?_; clear hF a; intro a hF
   refine ls_val hF (.free rfl) rfl rfl (ex_mul (r := ((k + 1) * x)) rfl rfl rfl rfl (by unfold I64; omega)) ?_; clear hF a; intro a hF
   refine ls_val hF (.free rfl) rfl rfl (ex_move rfl rfl) ?_; clear hF a; intro a hF
   refine ls_val hF (.free rfl) rfl rfl (ex_quo (r := (Int.tdiv ((k + 1) * x) c)) rfl rfl rfl (by omega) rfl (by unfold I64; omega)) ?_; clear hF a; intro a hF
   refine ls_val hF (.free rfl) rfl rfl (ex_move rfl rfl) ?_; clear hF a; intro a hF
   refine ls_val hF (.free rfl) rfl rfl (ex_mul (r := ((Int.tdiv ((k + 1) * x) c) * c)) rfl rfl rfl rfl (by unfold I64; omega)) ?_; clear hF a; intro a hF
   refine ls_val hF (.free rfl) rfl rfl (ex_assign rfl rfl) ?_; clear hF a; intro a hF
   refine ls_nil ?_
   refine then_normal ?_
   refine wp_ret ?_
   refine (fin1 hF rfl rfl ⟨_, rfl, ?_⟩)
   first
   | exact ⟨congrArg (Value.int .i64) (dfv1a ‹_›).symm, hS.sub (.cons _ .slnil)⟩
   | exact ⟨congrArg (Value.int .i64) (dfv1b ‹_›).symm, hS.sub (.cons _ .slnil)⟩

theorem a_cut {k x c : Int} (w0 : World) (hk : okF 2 k c) (hx : 0 ≤ x) (hxc : x ≤ c) (hc : 1 ≤ c) (hc2 : c ≤ 4000) :
    Calls Try.prog 86 [.agg #[.int .i64 k], .int .i64 x, .int .i64 c].toArray w0 fun e w => ∃ v, e = .returned v ∧ v = .int .i64 (dfv 2 k x c) ∧ Sat w0 w [] := by
  have hh := half_facts (show 0 ≤ c by omega); have hk2 : 1 ≤ k ∧ k ≤ c.tdiv 2 := by unfold okF at hk; omega
  refine enterS (vs := [.agg #[.int .i64 k], .int .i64 x, .int .i64 c]) Try.func86 rfl Try.ntmps86 rfl ?_
  intro a w hS hF
  refine cw_seq ?_
  refine wp_region_lit ?_
  refine ls_any hF (.free rfl) rfl rfl (ex_box (cs := [.int .i64 k]) rfl hS rfl rfl) ?_; clear hF; rintro _ w ⟨g1, rfl, hS⟩ a hF
  replace hS : Sat w0 w [.blk g1 [.int .i64 k]] := hS
  refine ls_val hF (.free rfl) rfl rfl (ex_assign rfl rfl) ?_; clear hF a; intro a hF
  refine ls_nil ?_
  refine then_normal ?_
  refine cw_seq ?_
  refine wp_block ?_
  refine cw_seq ?_
  refine wp_region_lit ?_
  refine ls_val hF (.free rfl) rfl rfl (ex_move rfl rfl) ?_; clear hF a; intro a hF
  refine ls_val hF (.free rfl) rfl rfl (ex_move rfl rfl) ?_; clear hF a; intro a hF
  refine ls_val hF (.free rfl) rfl rfl (ex_field (b := ⟨g1, 0, none⟩) rfl fd_107_0 rfl rfl) ?_; clear hF a; intro a hF
  refine ls_val hF (.free rfl) rfl rfl (ex_load_blk 0 rfl pl_3 rfl hS rfl rfl) ?_; clear hF a; intro a hF
  refine ls_val hF (.free rfl) rfl rfl (ex_sub (r := c - k) rfl rfl rfl (by omega) (by unfold I64; omega)) ?_; clear hF a; intro a hF
  refine ls_val hF (.free rfl) rfl rfl (ex_gtr rfl rfl rfl) ?_; clear hF a; intro a hF
  refine ls_val hF (.free rfl) rfl rfl (ex_assign rfl rfl) ?_; clear hF a; intro a hF
  refine ls_nil ?_
  refine then_normal ?_
  refine cw_if hF rfl (fun hc => ?_) (fun hc => ?_)
  ·
   refine cw_seq ?_
   refine wp_region_lit ?_
   refine ls_val hF (.free rfl) rfl rfl (ex_move rfl rfl) ?_; clear hF a; intro a hF
   refine ls_val hF (.free rfl) rfl rfl (ex_assign rfl rfl) ?_; clear hF a; intro a hF
   refine ls_nil ?_
   refine then_normal ?_
   refine wp_ret ?_
   refine inb_ret (then_ret ((fin1 hF rfl rfl ⟨_, rfl, ?_⟩)))
   first
   | exact ⟨congrArg (Value.int .i64) (dfv2a (by omega)).symm, hS.sub (.cons _ .slnil)⟩
   | exact ⟨congrArg (Value.int .i64) (dfv2b (by omega) (by omega)).symm, hS.sub (.cons _ .slnil)⟩
   | exact ⟨congrArg (Value.int .i64) (dfv2c (by omega) (by omega)).symm, hS.sub (.cons _ .slnil)⟩
  ·
   refine cw_seq ?_
   refine wp_region_lit ?_
   refine ls_val hF (.free rfl) rfl rfl (ex_move rfl rfl) ?_; clear hF a; intro a hF
   refine ls_val hF (.free rfl) rfl rfl (ex_field (b := ⟨g1, 0, none⟩) rfl fd_107_0 rfl rfl) ?_; clear hF a; intro a hF
   refine ls_val hF (.free rfl) rfl rfl (ex_load_blk 0 rfl pl_3 rfl hS rfl rfl) ?_; clear hF a; intro a hF
   refine ls_val hF (.free rfl) rfl rfl (ex_lss rfl rfl rfl) ?_; clear hF a; intro a hF
   refine ls_val hF (.free rfl) rfl rfl (ex_assign rfl rfl) ?_; clear hF a; intro a hF
   refine ls_nil ?_
   refine then_normal ?_
   refine cw_if hF rfl (fun hc => ?_) (fun hc => ?_)
   ·
    refine cw_seq ?_
    refine wp_region_lit ?_
    refine ls_val hF (.free rfl) rfl rfl (ex_assign rfl rfl) ?_; clear hF a; intro a hF
    refine ls_nil ?_
    refine then_normal ?_
    refine wp_ret ?_
    refine inb_ret (then_ret ((fin1 hF rfl rfl ⟨_, rfl, ?_⟩)))
    first
    | exact ⟨congrArg (Value.int .i64) (dfv2a (by omega)).symm, hS.sub (.cons _ .slnil)⟩
    | exact ⟨congrArg (Value.int .i64) (dfv2b (by omega) (by omega)).symm, hS.sub (.cons _ .slnil)⟩
    | exact ⟨congrArg (Value.int .i64) (dfv2c (by omega) (by omega)).symm, hS.sub (.cons _ .slnil)⟩
   ·
    refine wp_skip ?_
    refine inb_normal ?_
    refine then_normal ?_
    refine cw_seq ?_
    refine wp_region_lit ?_
    refine ls_val hF (.free rfl) rfl rfl (ex_move rfl rfl) ?_; clear hF a; intro a hF
    refine ls_val hF (.free rfl) rfl rfl (ex_assign rfl rfl) ?_; clear hF a; intro a hF
    refine ls_nil ?_
    refine then_normal ?_
    refine wp_ret ?_
    refine (fin1 hF rfl rfl ⟨_, rfl, ?_⟩)
    first
    | exact ⟨congrArg (Value.int .i64) (dfv2a (by omega)).symm, hS.sub (.cons _ .slnil)⟩
    | exact ⟨congrArg (Value.int .i64) (dfv2b (by omega) (by omega)).symm, hS.sub (.cons _ .slnil)⟩
    | exact ⟨congrArg (Value.int .i64) (dfv2c (by omega) (by omega)).symm, hS.sub (.cons _ .slnil)⟩

theorem m_plain_valid : methodT Try.prog 105 "fretsaw/rectbound.valid" 81 := fun v args w => by kernel_rfl
theorem m_plain_value : methodT Try.prog 105 "fretsaw/rectbound.value" 82 := fun v args w => by kernel_rfl
theorem dual_plain {k : Int} : DualV Try.prog 105 (.agg #[.int .i64 k]) 0 k :=
  ⟨⟨81, m_plain_valid, fun c w0 hc hc2 => v_plain w0 hc hc2⟩, ⟨82, m_plain_value, fun x c w0 hk hx hxc hc hc2 => a_plain w0 hk hx hxc hc hc2⟩⟩

theorem m_steps_valid : methodT Try.prog 106 "fretsaw/rectbound.valid" 83 := fun v args w => by kernel_rfl
theorem m_steps_value : methodT Try.prog 106 "fretsaw/rectbound.value" 84 := fun v args w => by kernel_rfl
theorem dual_steps {k : Int} : DualV Try.prog 106 (.agg #[.int .i64 k]) 1 k :=
  ⟨⟨83, m_steps_valid, fun c w0 hc hc2 => v_steps w0 hc hc2⟩, ⟨84, m_steps_value, fun x c w0 hk hx hxc hc hc2 => a_steps w0 hk hx hxc hc hc2⟩⟩

theorem m_cut_valid : methodT Try.prog 107 "fretsaw/rectbound.valid" 85 := fun v args w => by kernel_rfl
theorem m_cut_value : methodT Try.prog 107 "fretsaw/rectbound.value" 86 := fun v args w => by kernel_rfl
theorem dual_cut {k : Int} : DualV Try.prog 107 (.agg #[.int .i64 k]) 2 k :=
  ⟨⟨85, m_cut_valid, fun c w0 hc hc2 => v_cut w0 hc hc2⟩, ⟨86, m_cut_value, fun x c w0 hk hx hxc hc hc2 => a_cut w0 hk hx hxc hc hc2⟩⟩

theorem c_dual {kind k : Int} (w0 : World) (h0 : 0 ≤ kind) (h2 : kind ≤ 2) :
    Calls Try.prog 33 [.agg #[.int .i64 kind, .int .i64 k]].toArray w0 fun e w => ∃ v, e = .returned v ∧ ∃ t u, v = .iface t u ∧ DualV Try.prog t u kind k ∧ Sat w0 w [] := by
  refine enterS (vs := [.agg #[.int .i64 kind, .int .i64 k]]) Try.func33 rfl Try.ntmps33 rfl ?_
  intro a w hS hF
  refine cw_seq ?_
  refine wp_region_lit ?_
  refine ls_any hF (.free rfl) rfl rfl (ex_box (cs := [.int .i64 kind, .int .i64 k]) rfl hS rfl rfl) ?_; clear hF; rintro _ w ⟨g1, rfl, hS⟩ a hF
  replace hS : Sat w0 w [.blk g1 [.int .i64 kind, .int .i64 k]] := hS
  refine ls_val hF (.free rfl) rfl rfl (ex_assign rfl rfl) ?_; clear hF a; intro a hF
  refine ls_nil ?_
  refine then_normal ?_
  refine cw_seq ?_
  refine cw_seq ?_
  refine wp_region_lit ?_
  refine ls_val hF (.free rfl) rfl rfl (ex_field (b := ⟨g1, 0, none⟩) rfl fd_34_0 rfl rfl) ?_; clear hF a; intro a hF
  refine ls_val hF (.free rfl) rfl rfl (ex_load_blk 0 rfl pl_3 rfl hS rfl rfl) ?_; clear hF a; intro a hF
  refine ls_nil ?_
  refine then_normal ?_
  refine wp_block ?_
  refine cw_seq ?_
  refine wp_region_lit ?_
  refine ls_val hF (.free rfl) rfl rfl (ex_eql rfl rfl rfl) ?_; clear hF a; intro a hF
  refine ls_val hF (.free rfl) rfl rfl (ex_assign rfl rfl) ?_; clear hF a; intro a hF
  refine ls_nil ?_
  refine then_normal ?_
  refine cw_if hF rfl (fun hc => ?_) (fun hc => ?_)
  ·
   refine cw_seq ?_
   refine wp_region_lit ?_
   refine ls_val hF (.free rfl) rfl rfl (ex_field (b := ⟨g1, 1, none⟩) rfl fd_34_1 rfl rfl) ?_; clear hF a; intro a hF
   refine ls_val hF (.free rfl) rfl rfl (ex_load_blk 0 rfl pl_3 rfl hS rfl rfl) ?_; clear hF a; intro a hF
   refine ls_val hF (.free rfl) rfl rfl (ex_any (w' := w) (r := .value (.agg #[.int .i64 k])) (by intro _ _ h; cases h) rfl (by kernel_rfl)) ?_; clear hF a; intro a hF
   refine ls_val hF (.free rfl) rfl rfl (ex_mkiface rfl Try.underlying105 rfl rfl) ?_; clear hF a; intro a hF
   refine ls_val hF (.free rfl) rfl rfl (ex_assign rfl rfl) ?_; clear hF a; intro a hF
   refine ls_nil ?_
   refine then_normal ?_
   refine wp_ret ?_
   refine inb_ret (then_ret ((fin1 hF rfl rfl ⟨_, rfl, ?_⟩)))
   obtain rfl : kind = 0 := by omega
   exact ⟨_, _, rfl, dual_plain, hS.sub (.cons _ .slnil)⟩
  ·
   refine cw_seq ?_
   refine wp_region_lit ?_
   refine ls_val hF (.free rfl) rfl rfl (ex_eql rfl rfl rfl) ?_; clear hF a; intro a hF
   refine ls_val hF (.free rfl) rfl rfl (ex_assign rfl rfl) ?_; clear hF a; intro a hF
   refine ls_nil ?_
   refine then_normal ?_
   refine cw_if hF rfl (fun hc => ?_) (fun hc => ?_)
   ·
    refine cw_seq ?_
    refine wp_region_lit ?_
    refine ls_val hF (.free rfl) rfl rfl (ex_field (b := ⟨g1, 1, none⟩) rfl fd_34_1 rfl rfl) ?_; clear hF a; intro a hF
    refine ls_val hF (.free rfl) rfl rfl (ex_load_blk 0 rfl pl_3 rfl hS rfl rfl) ?_; clear hF a; intro a hF
    refine ls_val hF (.free rfl) rfl rfl (ex_any (w' := w) (r := .value (.agg #[.int .i64 k])) (by intro _ _ h; cases h) rfl (by kernel_rfl)) ?_; clear hF a; intro a hF
    refine ls_val hF (.free rfl) rfl rfl (ex_mkiface rfl Try.underlying106 rfl rfl) ?_; clear hF a; intro a hF
    refine ls_val hF (.free rfl) rfl rfl (ex_assign rfl rfl) ?_; clear hF a; intro a hF
    refine ls_nil ?_
    refine then_normal ?_
    refine wp_ret ?_
    refine inb_ret (then_ret ((fin1 hF rfl rfl ⟨_, rfl, ?_⟩)))
    obtain rfl : kind = 1 := by omega
    exact ⟨_, _, rfl, dual_steps, hS.sub (.cons _ .slnil)⟩
   ·
    refine cw_seq ?_
    refine wp_region_lit ?_
    refine ls_val hF (.free rfl) rfl rfl (ex_eql rfl rfl rfl) ?_; clear hF a; intro a hF
    refine ls_val hF (.free rfl) rfl rfl (ex_assign rfl rfl) ?_; clear hF a; intro a hF
    refine ls_nil ?_
    refine then_normal ?_
    refine cw_if hF rfl (fun hc => ?_) (fun hc => ?_)
    ·
     refine cw_seq ?_
     refine wp_region_lit ?_
     refine ls_val hF (.free rfl) rfl rfl (ex_field (b := ⟨g1, 1, none⟩) rfl fd_34_1 rfl rfl) ?_; clear hF a; intro a hF
     refine ls_val hF (.free rfl) rfl rfl (ex_load_blk 0 rfl pl_3 rfl hS rfl rfl) ?_; clear hF a; intro a hF
     refine ls_val hF (.free rfl) rfl rfl (ex_any (w' := w) (r := .value (.agg #[.int .i64 k])) (by intro _ _ h; cases h) rfl (by kernel_rfl)) ?_; clear hF a; intro a hF
     refine ls_val hF (.free rfl) rfl rfl (ex_mkiface rfl Try.underlying107 rfl rfl) ?_; clear hF a; intro a hF
     refine ls_val hF (.free rfl) rfl rfl (ex_assign rfl rfl) ?_; clear hF a; intro a hF
     refine ls_nil ?_
     refine then_normal ?_
     refine wp_ret ?_
     refine inb_ret (then_ret ((fin1 hF rfl rfl ⟨_, rfl, ?_⟩)))
     obtain rfl : kind = 2 := by omega
     exact ⟨_, _, rfl, dual_cut, hS.sub (.cons _ .slnil)⟩
    ·
     refine wp_skip ?_
     refine inb_normal ?_
     refine then_normal ?_
     refine cw_seq ?_
     refine wp_region_lit ?_
     refine ls_val hF (.free rfl) rfl rfl (ex_assign rfl rfl) ?_; clear hF a; intro a hF
     refine ls_nil ?_
     refine then_normal ?_
     refine wp_ret ?_
     refine (fin1 hF rfl rfl ⟨_, rfl, ?_⟩)
     exfalso; omega

theorem c_dualn {kind k : Int} (w0 : World) (hn : kind < 0 ∨ 2 < kind) :
    Calls Try.prog 33 [.agg #[.int .i64 kind, .int .i64 k]].toArray w0 fun e w => ∃ v, e = .returned v ∧ v = .nilIface ∧ Sat w0 w [] := by
  refine enterS (vs := [.agg #[.int .i64 kind, .int .i64 k]]) Try.func33 rfl Try.ntmps33 rfl ?_
  intro a w hS hF
  refine cw_seq ?_
  refine wp_region_lit ?_
  refine ls_any hF (.free rfl) rfl rfl (ex_box (cs := [.int .i64 kind, .int .i64 k]) rfl hS rfl rfl) ?_; clear hF; rintro _ w ⟨g1, rfl, hS⟩ a hF
  replace hS : Sat w0 w [.blk g1 [.int .i64 kind, .int .i64 k]] := hS
  refine ls_val hF (.free rfl) rfl rfl (ex_assign rfl rfl) ?_; clear hF a; intro a hF
  refine ls_nil ?_
  refine then_normal ?_
  refine cw_seq ?_
  refine cw_seq ?_
  refine wp_region_lit ?_
  refine ls_val hF (.free rfl) rfl rfl (ex_field (b := ⟨g1, 0, none⟩) rfl fd_34_0 rfl rfl) ?_; clear hF a; intro a hF
  refine ls_val hF (.free rfl) rfl rfl (ex_load_blk 0 rfl pl_3 rfl hS rfl rfl) ?_; clear hF a; intro a hF
  refine ls_nil ?_
  refine then_normal ?_
  refine wp_block ?_
  refine cw_seq ?_
  refine wp_region_lit ?_
  refine ls_val hF (.free rfl) rfl rfl (ex_eql rfl rfl rfl) ?_; clear hF a; intro a hF
  refine ls_val hF (.free rfl) rfl rfl (ex_assign rfl rfl) ?_; clear hF a; intro a hF
  refine ls_nil ?_
  refine then_normal ?_
  refine cw_if hF rfl (fun hc => ?_) (fun hc => ?_)
  ·
   refine cw_seq ?_
   refine wp_region_lit ?_
   refine ls_val hF (.free rfl) rfl rfl (ex_field (b := ⟨g1, 1, none⟩) rfl fd_34_1 rfl rfl) ?_; clear hF a; intro a hF
   refine ls_val hF (.free rfl) rfl rfl (ex_load_blk 0 rfl pl_3 rfl hS rfl rfl) ?_; clear hF a; intro a hF
   refine ls_val hF (.free rfl) rfl rfl (ex_any (w' := w) (r := .value (.agg #[.int .i64 k])) (by intro _ _ h; cases h) rfl (by kernel_rfl)) ?_; clear hF a; intro a hF
   refine ls_val hF (.free rfl) rfl rfl (ex_mkiface rfl Try.underlying105 rfl rfl) ?_; clear hF a; intro a hF
   refine ls_val hF (.free rfl) rfl rfl (ex_assign rfl rfl) ?_; clear hF a; intro a hF
   refine ls_nil ?_
   refine then_normal ?_
   refine wp_ret ?_
   refine inb_ret (then_ret ((fin1 hF rfl rfl ⟨_, rfl, ?_⟩)))
   exfalso; omega
  ·
   refine cw_seq ?_
   refine wp_region_lit ?_
   refine ls_val hF (.free rfl) rfl rfl (ex_eql rfl rfl rfl) ?_; clear hF a; intro a hF
   refine ls_val hF (.free rfl) rfl rfl (ex_assign rfl rfl) ?_; clear hF a; intro a hF
   refine ls_nil ?_
   refine then_normal ?_
   refine cw_if hF rfl (fun hc => ?_) (fun hc => ?_)
   ·
    refine cw_seq ?_
    refine wp_region_lit ?_
    refine ls_val hF (.free rfl) rfl rfl (ex_field (b := ⟨g1, 1, none⟩) rfl fd_34_1 rfl rfl) ?_; clear hF a; intro a hF
    refine ls_val hF (.free rfl) rfl rfl (ex_load_blk 0 rfl pl_3 rfl hS rfl rfl) ?_; clear hF a; intro a hF
    refine ls_val hF (.free rfl) rfl rfl (ex_any (w' := w) (r := .value (.agg #[.int .i64 k])) (by intro _ _ h; cases h) rfl (by kernel_rfl)) ?_; clear hF a; intro a hF
    refine ls_val hF (.free rfl) rfl rfl (ex_mkiface rfl Try.underlying106 rfl rfl) ?_; clear hF a; intro a hF
    refine ls_val hF (.free rfl) rfl rfl (ex_assign rfl rfl) ?_; clear hF a; intro a hF
    refine ls_nil ?_
    refine then_normal ?_
    refine wp_ret ?_
    refine inb_ret (then_ret ((fin1 hF rfl rfl ⟨_, rfl, ?_⟩)))
    exfalso; omega
   ·
    refine cw_seq ?_
    refine wp_region_lit ?_
    refine ls_val hF (.free rfl) rfl rfl (ex_eql rfl rfl rfl) ?_; clear hF a; intro a hF
    refine ls_val hF (.free rfl) rfl rfl (ex_assign rfl rfl) ?_; clear hF a; intro a hF
    refine ls_nil ?_
    refine then_normal ?_
    refine cw_if hF rfl (fun hc => ?_) (fun hc => ?_)
    ·
     refine cw_seq ?_
     refine wp_region_lit ?_
     refine ls_val hF (.free rfl) rfl rfl (ex_field (b := ⟨g1, 1, none⟩) rfl fd_34_1 rfl rfl) ?_; clear hF a; intro a hF
     refine ls_val hF (.free rfl) rfl rfl (ex_load_blk 0 rfl pl_3 rfl hS rfl rfl) ?_; clear hF a; intro a hF
     refine ls_val hF (.free rfl) rfl rfl (ex_any (w' := w) (r := .value (.agg #[.int .i64 k])) (by intro _ _ h; cases h) rfl (by kernel_rfl)) ?_; clear hF a; intro a hF
     refine ls_val hF (.free rfl) rfl rfl (ex_mkiface rfl Try.underlying107 rfl rfl) ?_; clear hF a; intro a hF
     refine ls_val hF (.free rfl) rfl rfl (ex_assign rfl rfl) ?_; clear hF a; intro a hF
     refine ls_nil ?_
     refine then_normal ?_
     refine wp_ret ?_
     refine inb_ret (then_ret ((fin1 hF rfl rfl ⟨_, rfl, ?_⟩)))
     exfalso; omega
    ·
     refine wp_skip ?_
     refine inb_normal ?_
     refine then_normal ?_
     refine cw_seq ?_
     refine wp_region_lit ?_
     refine ls_val hF (.free rfl) rfl rfl (ex_assign rfl rfl) ?_; clear hF a; intro a hF
     refine ls_nil ?_
     refine then_normal ?_
     refine wp_ret ?_
     refine (fin1 hF rfl rfl ⟨_, rfl, ?_⟩)
     exact ⟨rfl, hS.sub (.cons _ .slnil)⟩

theorem c_fvalid1 {kind k c : Int} (w0 : World) (h0 : 0 ≤ kind) (h2 : kind ≤ 2) (hc : 0 ≤ c) (hc2 : c ≤ 1000000) :
    Calls Try.prog 24 [.agg #[.int .i64 kind, .int .i64 k], .int .i64 c].toArray w0 fun e w => ∃ v, e = .returned v ∧ v = B (okF kind k c) ∧ Sat w0 w [] := by
  refine enterS (vs := [.agg #[.int .i64 kind, .int .i64 k], .int .i64 c]) Try.func24 rfl Try.ntmps24 rfl ?_
  intro a w hS hF
  refine cw_seq ?_
  refine wp_region_lit ?_
  refine ls_any hF (.free rfl) rfl rfl (ex_box (cs := [.int .i64 kind, .int .i64 k]) rfl hS rfl rfl) ?_; clear hF; rintro _ w ⟨g1, rfl, hS⟩ a hF
  replace hS : Sat w0 w [.blk g1 [.int .i64 kind, .int .i64 k]] := hS
  refine ls_val hF (.free rfl) rfl rfl (ex_assign rfl rfl) ?_; clear hF a; intro a hF
  refine ls_nil ?_
  refine then_normal ?_
  refine cw_seq ?_
  refine wp_region_lit ?_
  refine ls_val hF (.free rfl) rfl rfl (ex_loads_blk 0 rfl st_34 rfl hS rfl rfl) ?_; clear hF a; intro a hF
  refine ls_call hF (.free rfl) rfl rfl (ex_call0 rfl rfl cl_33 (args_cons rfl args0)) (c_dual (kind := kind) (k := k) w (by omega) (by omega)) ?_; clear hF; rintro _ w ⟨td1, ud1, rfl, ⟨⟨fvd1, hmvd1, hcvd1⟩, ⟨fad1, hmad1, hcad1⟩⟩, hS'⟩ a hF
  replace hS : Sat w0 w [.blk g1 [.int .i64 kind, .int .i64 k]] := hS.comp hS'; clear hS'
  refine ls_val hF (.free rfl) rfl rfl (ex_assign rfl rfl) ?_; clear hF a; intro a hF
  refine ls_nil ?_
  refine then_normal ?_
  refine cw_seq ?_
  refine wp_region_lit ?_
  refine ls_val hF (.free rfl) rfl rfl (ex_move rfl rfl) ?_; clear hF a; intro a hF
  refine ls_val hF (.free rfl) rfl rfl (ex_neq_nil_t rfl Try.underlying88 rfl rfl) ?_; clear hF a; intro a hF
  refine ls_val hF (.free rfl) rfl rfl (ex_move rfl rfl) ?_; clear hF a; intro a hF
  refine ls_val hF (.on rfl rfl rfl rfl rfl) rfl rfl (ex_move rfl rfl) ?_; clear hF a; intro a hF
  refine ls_val hF (.on rfl rfl rfl rfl rfl) rfl rfl (ex_move rfl rfl) ?_; clear hF a; intro a hF
  refine ls_call hF (.on rfl rfl rfl rfl rfl) rfl rfl (ex_invoke rfl rfl hmvd1 (args_cons rfl args0)) (hcvd1 c w (by omega) (by omega)) ?_; clear hF; rintro _ w ⟨rfl, hS'⟩ a hF
  replace hS : Sat w0 w [.blk g1 [.int .i64 kind, .int .i64 k]] := hS.comp hS'; clear hS'
  refine ls_val hF (.free rfl) rfl rfl (ex_pick_t rfl rfl rfl) ?_; clear hF a; intro a hF
  refine ls_val hF (.free rfl) rfl rfl (ex_assign rfl rfl) ?_; clear hF a; intro a hF
  refine ls_nil ?_
  refine then_normal ?_
  refine wp_ret ?_
  refine (fin1 hF rfl rfl ⟨_, rfl, ?_⟩)
  exact ⟨B_congr (by exact Iff.rfl), hS.sub (.cons _ .slnil)⟩

theorem c_fvalid2 {kind k c : Int} (w0 : World) (hn : kind < 0 ∨ 2 < kind) :
    Calls Try.prog 24 [.agg #[.int .i64 kind, .int .i64 k], .int .i64 c].toArray w0 fun e w => ∃ v, e = .returned v ∧ v = B (okF kind k c) ∧ Sat w0 w [] := by
  refine enterS (vs := [.agg #[.int .i64 kind, .int .i64 k], .int .i64 c]) Try.func24 rfl Try.ntmps24 rfl ?_
  intro a w hS hF
  refine cw_seq ?_
  refine wp_region_lit ?_
  refine ls_any hF (.free rfl) rfl rfl (ex_box (cs := [.int .i64 kind, .int .i64 k]) rfl hS rfl rfl) ?_; clear hF; rintro _ w ⟨g1, rfl, hS⟩ a hF
  replace hS : Sat w0 w [.blk g1 [.int .i64 kind, .int .i64 k]] := hS
  refine ls_val hF (.free rfl) rfl rfl (ex_assign rfl rfl) ?_; clear hF a; intro a hF
  refine ls_nil ?_
  refine then_normal ?_
  refine cw_seq ?_
  refine wp_region_lit ?_
  refine ls_val hF (.free rfl) rfl rfl (ex_loads_blk 0 rfl st_34 rfl hS rfl rfl) ?_; clear hF a; intro a hF
  refine ls_call hF (.free rfl) rfl rfl (ex_call0 rfl rfl cl_33 (args_cons rfl args0)) (c_dualn w (by omega)) ?_; clear hF; rintro _ w ⟨rfl, hS'⟩ a hF
  replace hS : Sat w0 w [.blk g1 [.int .i64 kind, .int .i64 k]] := hS.comp hS'; clear hS'
  refine ls_val hF (.free rfl) rfl rfl (ex_assign rfl rfl) ?_; clear hF a; intro a hF
  refine ls_nil ?_
  refine then_normal ?_
  refine cw_seq ?_
  refine wp_region_lit ?_
  refine ls_val hF (.free rfl) rfl rfl (ex_move rfl rfl) ?_; clear hF a; intro a hF
  refine ls_val hF (.free rfl) rfl rfl (ex_neq_nil_f rfl Try.underlying88 rfl) ?_; clear hF a; intro a hF
  refine ls_val hF (.free rfl) rfl rfl (ex_move rfl rfl) ?_; clear hF a; intro a hF
  refine ls_off hF (.on rfl rfl rfl rfl rfl) rfl rfl ?_; clear hF a; intro a hF
  refine ls_off hF (.on rfl rfl rfl rfl rfl) rfl rfl ?_; clear hF a; intro a hF
  refine ls_off hF (.on rfl rfl rfl rfl rfl) rfl rfl ?_; clear hF a; intro a hF
  refine ls_val hF (.free rfl) rfl rfl (ex_pick_f rfl rfl rfl) ?_; clear hF a; intro a hF
  refine ls_val hF (.free rfl) rfl rfl (ex_assign rfl rfl) ?_; clear hF a; intro a hF
  refine ls_nil ?_
  refine then_normal ?_
  refine wp_ret ?_
  refine (fin1 hF rfl rfl ⟨_, rfl, ?_⟩)
  exact ⟨false_B (by unfold okF; omega), hS.sub (.cons _ .slnil)⟩

theorem c_fvalid {kind k c : Int} (w0 : World) (hc : 0 ≤ c) (hc2 : c ≤ 1000000) : Calls Try.prog 24 [.agg #[.int .i64 kind, .int .i64 k], .int .i64 c].toArray w0 fun e w => ∃ v, e = .returned v ∧ v = B (okF kind k c) ∧ Sat w0 w [] := by
  by_cases h : 0 ≤ kind ∧ kind ≤ 2
  · exact c_fvalid1 w0 h.1 h.2 hc hc2
  · exact c_fvalid2 w0 (by omega)

set_option maxRecDepth 20000 in
theorem c_apply {kind k x c : Int} (w0 : World) (hx : (-9223372036854775808 ≤ x ∧ x ≤ 9223372036854775807)) (hc : (-9223372036854775808 ≤ c ∧ c ≤ 9223372036854775807)) :
    Calls Try.prog 21 [.agg #[.int .i64 kind, .int .i64 k], .int .i64 x, .int .i64 c].toArray w0 fun e w => ∃ v, e = .returned v ∧ ∃ a e, v = .tuple #[.int .i64 a, .int .i64 e] ∧ ApplyR kind k x c a e ∧ Sat w0 w [] := by
  refine enterS (vs := [.agg #[.int .i64 kind, .int .i64 k], .int .i64 x, .int .i64 c]) Try.func21 rfl Try.ntmps21 rfl ?_
  intro a w hS hF
  refine cw_seq ?_
  refine wp_region_lit ?_
  refine ls_any hF (.free rfl) rfl rfl (ex_box (cs := [.int .i64 kind, .int .i64 k]) rfl hS rfl rfl) ?_; clear hF; rintro _ w ⟨g1, rfl, hS⟩ a hF
  replace hS : Sat w0 w [.blk g1 [.int .i64 kind, .int .i64 k]] := hS
  refine ls_val hF (.free rfl) rfl rfl (ex_assign rfl rfl) ?_; clear hF a; intro a hF
  refine ls_val hF (.free rfl) rfl rfl (ex_assign rfl rfl) ?_; clear hF a; intro a hF
  refine ls_nil ?_
  refine then_normal ?_
  refine cw_seq ?_
  refine cw_seq ?_
  refine wp_region_lit ?_
  refine ls_val hF (.free rfl) rfl rfl (ex_move rfl rfl) ?_; clear hF a; intro a hF
  refine ls_call hF (.free rfl) rfl rfl (ex_call0 rfl rfl cl_32 (args_cons rfl (args_cons rfl (args_cons rfl args0)))) (c_in w) ?_; clear hF; rintro _ w ⟨rfl, hS'⟩ a hF
  replace hS : Sat w0 w [.blk g1 [.int .i64 kind, .int .i64 k]] := hS.comp hS'; clear hS'
  refine ls_val hF (.free rfl) rfl rfl (ex_not rfl rfl) ?_; clear hF a; intro a hF
  refine ls_val hF (.free rfl) rfl rfl (ex_move rfl rfl) ?_; clear hF a; intro a hF
  refine by_slot hF (d := 11) rfl ?_ ?_ <;> clear hF <;> intro hc hF
  ·
   refine ls_off hF (.on rfl rfl rfl rfl rfl) rfl rfl ?_; clear hF a; intro a hF
   refine ls_off hF (.on rfl rfl rfl rfl rfl) rfl rfl ?_; clear hF a; intro a hF
   refine ls_off hF (.on rfl rfl rfl rfl rfl) rfl rfl ?_; clear hF a; intro a hF
   refine ls_off hF (.on rfl rfl rfl rfl rfl) rfl rfl ?_; clear hF a; intro a hF
   refine ls_val hF (.free rfl) rfl rfl (ex_pick_t rfl rfl rfl) ?_; clear hF a; intro a hF
   refine ls_val hF (.free rfl) rfl rfl (ex_move rfl rfl) ?_; clear hF a; intro a hF
   refine ls_off hF (.on rfl rfl rfl rfl rfl) rfl rfl ?_; clear hF a; intro a hF
   refine ls_off hF (.on rfl rfl rfl rfl rfl) rfl rfl ?_; clear hF a; intro a hF
   refine ls_off hF (.on rfl rfl rfl rfl rfl) rfl rfl ?_; clear hF a; intro a hF
   refine ls_off hF (.on rfl rfl rfl rfl rfl) rfl rfl ?_; clear hF a; intro a hF
   refine ls_val hF (.free rfl) rfl rfl (ex_pick_t rfl rfl rfl) ?_; clear hF a; intro a hF
   refine ls_nil ?_
   refine then_normal ?_
   refine cw_t hF rfl ?_
   refine cw_seq ?_
   refine wp_region_lit ?_
   refine ls_val hF (.free rfl) rfl rfl (ex_assign rfl rfl) ?_; clear hF a; intro a hF
   refine ls_val hF (.free rfl) rfl rfl (ex_assign rfl rfl) ?_; clear hF a; intro a hF
   refine ls_nil ?_
   refine then_normal ?_
   refine wp_ret ?_
   refine then_ret ((fin2 hF rfl rfl rfl ⟨_, rfl, ?_⟩))
   exact ⟨0, 1, rfl, .inr ⟨by rintro ⟨h1, h2, h3, h4⟩; first | omega | exact absurd h3 ‹_›, rfl, rfl⟩, hS.sub (.cons _ .slnil)⟩
  ·
   refine ls_val hF (.on rfl rfl rfl rfl rfl) rfl rfl (ex_loads_blk 0 rfl st_34 rfl hS rfl rfl) ?_; clear hF a; intro a hF
   refine ls_val hF (.on rfl rfl rfl rfl rfl) rfl rfl (ex_move rfl rfl) ?_; clear hF a; intro a hF
   refine ls_call hF (.on rfl rfl rfl rfl rfl) rfl rfl (ex_call0 rfl rfl cl_24 (args_cons rfl (args_cons rfl args0))) (c_fvalid (kind := kind) (k := k) (c := c) w (by omega) (by omega)) ?_; clear hF; rintro _ w ⟨rfl, hS'⟩ a hF
   replace hS : Sat w0 w [.blk g1 [.int .i64 kind, .int .i64 k]] := hS.comp hS'; clear hS'
   refine ls_val hF (.on rfl rfl rfl rfl rfl) rfl rfl (ex_not rfl rfl) ?_; clear hF a; intro a hF
   refine ls_val hF (.free rfl) rfl rfl (ex_pick_f rfl rfl rfl) ?_; clear hF a; intro a hF
   refine ls_val hF (.free rfl) rfl rfl (ex_move rfl rfl) ?_; clear hF a; intro a hF
   refine by_slot hF (d := 17) rfl ?_ ?_ <;> clear hF <;> intro hc hF
   ·
    refine ls_off hF (.on rfl rfl rfl rfl rfl) rfl rfl ?_; clear hF a; intro a hF
    refine ls_off hF (.on rfl rfl rfl rfl rfl) rfl rfl ?_; clear hF a; intro a hF
    refine ls_off hF (.on rfl rfl rfl rfl rfl) rfl rfl ?_; clear hF a; intro a hF
    refine ls_off hF (.on rfl rfl rfl rfl rfl) rfl rfl ?_; clear hF a; intro a hF
    refine ls_val hF (.free rfl) rfl rfl (ex_pick_t rfl rfl rfl) ?_; clear hF a; intro a hF
    refine ls_nil ?_
    refine then_normal ?_
    refine cw_t hF rfl ?_
    refine cw_seq ?_
    refine wp_region_lit ?_
    refine ls_val hF (.free rfl) rfl rfl (ex_assign rfl rfl) ?_; clear hF a; intro a hF
    refine ls_val hF (.free rfl) rfl rfl (ex_assign rfl rfl) ?_; clear hF a; intro a hF
    refine ls_nil ?_
    refine then_normal ?_
    refine wp_ret ?_
    refine then_ret ((fin2 hF rfl rfl rfl ⟨_, rfl, ?_⟩))
    exact ⟨0, 1, rfl, .inr ⟨by rintro ⟨h1, h2, h3, h4⟩; first | omega | exact absurd h3 ‹_›, rfl, rfl⟩, hS.sub (.cons _ .slnil)⟩
   ·
    refine ls_val hF (.on rfl rfl rfl rfl rfl) rfl rfl (ex_move rfl rfl) ?_; clear hF a; intro a hF
    refine ls_val hF (.on rfl rfl rfl rfl rfl) rfl rfl (ex_move rfl rfl) ?_; clear hF a; intro a hF
    refine ls_call hF (.on rfl rfl rfl rfl rfl) rfl rfl (ex_call0 rfl rfl cl_32 (args_cons rfl (args_cons rfl (args_cons rfl args0)))) (c_in w) ?_; clear hF; rintro _ w ⟨rfl, hS'⟩ a hF
    replace hS : Sat w0 w [.blk g1 [.int .i64 kind, .int .i64 k]] := hS.comp hS'; clear hS'
    refine ls_val hF (.on rfl rfl rfl rfl rfl) rfl rfl (ex_not rfl rfl) ?_; clear hF a; intro a hF
    refine ls_val hF (.free rfl) rfl rfl (ex_pick_f rfl rfl rfl) ?_; clear hF a; intro a hF
    refine ls_nil ?_
    refine then_normal ?_
    refine cw_if hF rfl (fun hc => ?_) (fun hc => ?_)
    ·
     refine cw_seq ?_
     refine wp_region_lit ?_
     refine ls_val hF (.free rfl) rfl rfl (ex_assign rfl rfl) ?_; clear hF a; intro a hF
     refine ls_val hF (.free rfl) rfl rfl (ex_assign rfl rfl) ?_; clear hF a; intro a hF
     refine ls_nil ?_
     refine then_normal ?_
     refine wp_ret ?_
     refine then_ret ((fin2 hF rfl rfl rfl ⟨_, rfl, ?_⟩))
     exact ⟨0, 1, rfl, .inr ⟨by rintro ⟨h1, h2, h3, h4⟩; first | omega | exact absurd h3 ‹_›, rfl, rfl⟩, hS.sub (.cons _ .slnil)⟩
    ·
     refine wp_skip ?_
     refine then_normal ?_
     refine cw_seq ?_
     refine wp_region_lit ?_
     refine ls_val hF (.free rfl) rfl rfl (ex_loads_blk 0 rfl st_34 rfl hS rfl rfl) ?_; clear hF a; intro a hF
     have hok := (Classical.not_not.1 ‹¬ ¬ (okF kind k c)›); have hkd : 0 ≤ kind ∧ kind ≤ 2 := by unfold okF at hok; omega
     refine ls_call hF (.free rfl) rfl rfl (ex_call0 rfl rfl cl_33 (args_cons rfl args0)) (c_dual (kind := kind) (k := k) w (by omega) (by omega)) ?_; clear hF; rintro _ w ⟨td1, ud1, rfl, ⟨⟨fvd1, hmvd1, hcvd1⟩, ⟨fad1, hmad1, hcad1⟩⟩, hS'⟩ a hF
     replace hS : Sat w0 w [.blk g1 [.int .i64 kind, .int .i64 k]] := hS.comp hS'; clear hS'
     refine ls_val hF (.free rfl) rfl rfl (ex_move rfl rfl) ?_; clear hF a; intro a hF
     refine ls_val hF (.free rfl) rfl rfl (ex_move rfl rfl) ?_; clear hF a; intro a hF
     refine ls_call hF (.free rfl) rfl rfl (ex_invoke rfl rfl hmad1 (args_cons rfl (args_cons rfl args0))) (hcad1 x c w hok (by omega) (by omega) (by omega) (by omega)) ?_; clear hF; rintro _ w ⟨rfl, hS'⟩ a hF
     replace hS : Sat w0 w [.blk g1 [.int .i64 kind, .int .i64 k]] := hS.comp hS'; clear hS'
     refine ls_val hF (.free rfl) rfl rfl (ex_assign rfl rfl) ?_; clear hF a; intro a hF
     refine ls_val hF (.free rfl) rfl rfl (ex_assign rfl rfl) ?_; clear hF a; intro a hF
     refine ls_nil ?_
     refine then_normal ?_
     refine wp_ret ?_
     refine (fin2 hF rfl rfl rfl ⟨_, rfl, ?_⟩)
     exact ⟨_, 0, rfl, .inl ⟨by omega, by omega, hok, by omega, by omega, rfl, rfl⟩, hS.sub (.cons _ .slnil)⟩

theorem c_rvalid {kind k c : Int} (w0 : World) (hc : 0 ≤ c) (hc2 : c ≤ 1000000) :
    Calls Try.prog 27 [.agg #[.int .i64 kind, .int .i64 k], .int .i64 c].toArray w0 fun e w => ∃ v, e = .returned v ∧ v = B (okF kind k c) ∧ Sat w0 w [] := by
  have hh := half_facts hc
  refine enterS (vs := [.agg #[.int .i64 kind, .int .i64 k], .int .i64 c]) Try.func27 rfl Try.ntmps27 rfl ?_
  intro a w hS hF
  refine cw_seq ?_
  refine wp_region_lit ?_
  refine ls_any hF (.free rfl) rfl rfl (ex_box (cs := [.int .i64 kind, .int .i64 k]) rfl hS rfl rfl) ?_; clear hF; rintro _ w ⟨g1, rfl, hS⟩ a hF
  replace hS : Sat w0 w [.blk g1 [.int .i64 kind, .int .i64 k]] := hS
  refine ls_val hF (.free rfl) rfl rfl (ex_assign rfl rfl) ?_; clear hF a; intro a hF
  refine ls_nil ?_
  refine then_normal ?_
  refine cw_seq ?_
  refine cw_seq ?_
  refine wp_region_lit ?_
  refine ls_val hF (.free rfl) rfl rfl (ex_field (b := ⟨g1, 0, none⟩) rfl fd_26_0 rfl rfl) ?_; clear hF a; intro a hF
  refine ls_val hF (.free rfl) rfl rfl (ex_load_blk 0 rfl pl_3 rfl hS rfl rfl) ?_; clear hF a; intro a hF
  refine ls_nil ?_
  refine then_normal ?_
  refine wp_block ?_
  refine cw_seq ?_
  refine wp_region_lit ?_
  refine ls_val hF (.free rfl) rfl rfl (ex_eql rfl rfl rfl) ?_; clear hF a; intro a hF
  refine ls_val hF (.free rfl) rfl rfl (ex_assign rfl rfl) ?_; clear hF a; intro a hF
  refine ls_nil ?_
  refine then_normal ?_
  refine cw_if hF rfl (fun hc => ?_) (fun hc => ?_)
  ·
   refine cw_seq ?_
   refine wp_region_lit ?_
   refine ls_val hF (.free rfl) rfl rfl (ex_field (b := ⟨g1, 1, none⟩) rfl fd_26_1 rfl rfl) ?_; clear hF a; intro a hF
   refine ls_val hF (.free rfl) rfl rfl (ex_load_blk 0 rfl pl_3 rfl hS rfl rfl) ?_; clear hF a; intro a hF
   refine ls_val hF (.free rfl) rfl rfl (ex_eql rfl rfl rfl) ?_; clear hF a; intro a hF
   refine ls_val hF (.free rfl) rfl rfl (ex_assign rfl rfl) ?_; clear hF a; intro a hF
   refine ls_nil ?_
   refine then_normal ?_
   refine wp_ret ?_
   refine inb_ret (then_ret ((fin1 hF rfl rfl ⟨_, rfl, ?_⟩)))
   exact ⟨B_congr (by unfold okF; omega), hS.sub (.cons _ .slnil)⟩
  ·
   refine cw_seq ?_
   refine wp_region_lit ?_
   refine ls_val hF (.free rfl) rfl rfl (ex_eql rfl rfl rfl) ?_; clear hF a; intro a hF
   refine ls_val hF (.free rfl) rfl rfl (ex_assign rfl rfl) ?_; clear hF a; intro a hF
   refine ls_nil ?_
   refine then_normal ?_
   refine cw_if hF rfl (fun hc => ?_) (fun hc => ?_)
   ·
    refine cw_seq ?_
    refine wp_region_lit ?_
    refine ls_val hF (.free rfl) rfl rfl (ex_field (b := ⟨g1, 1, none⟩) rfl fd_26_1 rfl rfl) ?_; clear hF a; intro a hF
    refine ls_val hF (.free rfl) rfl rfl (ex_load_blk 0 rfl pl_3 rfl hS rfl rfl) ?_; clear hF a; intro a hF
    refine ls_val hF (.free rfl) rfl rfl (ex_geq rfl rfl rfl) ?_; clear hF a; intro a hF
    refine ls_val hF (.free rfl) rfl rfl (ex_move rfl rfl) ?_; clear hF a; intro a hF
    refine by_slot hF (d := 17) rfl ?_ ?_ <;> clear hF <;> intro hc hF
    ·
     refine ls_val hF (.on rfl rfl rfl rfl rfl) rfl rfl (ex_field (b := ⟨g1, 1, none⟩) rfl fd_26_1 rfl rfl) ?_; clear hF a; intro a hF
     refine ls_val hF (.on rfl rfl rfl rfl rfl) rfl rfl (ex_load_blk 0 rfl pl_3 rfl hS rfl rfl) ?_; clear hF a; intro a hF
     refine ls_val hF (.on rfl rfl rfl rfl rfl) rfl rfl (ex_leq rfl rfl rfl) ?_; clear hF a; intro a hF
     refine ls_val hF (.free rfl) rfl rfl (ex_pick_t rfl rfl rfl) ?_; clear hF a; intro a hF
     refine ls_val hF (.free rfl) rfl rfl (ex_assign rfl rfl) ?_; clear hF a; intro a hF
     refine ls_nil ?_
     refine then_normal ?_
     refine wp_ret ?_
     refine inb_ret (then_ret ((fin1 hF rfl rfl ⟨_, rfl, ?_⟩)))
     exact ⟨B_congr (by unfold okF; omega), hS.sub (.cons _ .slnil)⟩
    ·
     refine ls_off hF (.on rfl rfl rfl rfl rfl) rfl rfl ?_; clear hF a; intro a hF
     refine ls_off hF (.on rfl rfl rfl rfl rfl) rfl rfl ?_; clear hF a; intro a hF
     refine ls_off hF (.on rfl rfl rfl rfl rfl) rfl rfl ?_; clear hF a; intro a hF
     refine ls_val hF (.free rfl) rfl rfl (ex_pick_f rfl rfl rfl) ?_; clear hF a; intro a hF
     refine ls_val hF (.free rfl) rfl rfl (ex_assign rfl rfl) ?_; clear hF a; intro a hF
     refine ls_nil ?_
     refine then_normal ?_
     refine wp_ret ?_
     refine inb_ret (then_ret ((fin1 hF rfl rfl ⟨_, rfl, ?_⟩)))
     exact ⟨false_B (by unfold okF; omega), hS.sub (.cons _ .slnil)⟩
   ·
    refine cw_seq ?_
    refine wp_region_lit ?_
    refine ls_val hF (.free rfl) rfl rfl (ex_eql rfl rfl rfl) ?_; clear hF a; intro a hF
    refine ls_val hF (.free rfl) rfl rfl (ex_assign rfl rfl) ?_; clear hF a; intro a hF
    refine ls_nil ?_
    refine then_normal ?_
    refine cw_if hF rfl (fun hc => ?_) (fun hc => ?_)
    ·
     refine cw_seq ?_
     refine wp_region_lit ?_
     refine ls_val hF (.free rfl) rfl rfl (ex_field (b := ⟨g1, 1, none⟩) rfl fd_26_1 rfl rfl) ?_; clear hF a; intro a hF
     refine ls_val hF (.free rfl) rfl rfl (ex_load_blk 0 rfl pl_3 rfl hS rfl rfl) ?_; clear hF a; intro a hF
     refine ls_val hF (.free rfl) rfl rfl (ex_geq rfl rfl rfl) ?_; clear hF a; intro a hF
     refine ls_val hF (.free rfl) rfl rfl (ex_move rfl rfl) ?_; clear hF a; intro a hF
     refine by_slot hF (d := 27) rfl ?_ ?_ <;> clear hF <;> intro hc hF
     ·
      refine ls_val hF (.on rfl rfl rfl rfl rfl) rfl rfl (ex_field (b := ⟨g1, 1, none⟩) rfl fd_26_1 rfl rfl) ?_; clear hF a; intro a hF
      refine ls_val hF (.on rfl rfl rfl rfl rfl) rfl rfl (ex_load_blk 0 rfl pl_3 rfl hS rfl rfl) ?_; clear hF a; intro a hF
      refine ls_val hF (.on rfl rfl rfl rfl rfl) rfl rfl (ex_move rfl rfl) ?_; clear hF a; intro a hF
      refine ls_val hF (.on rfl rfl rfl rfl rfl) rfl rfl (ex_quo (r := (Int.tdiv c 2)) rfl rfl rfl (by omega) rfl (by unfold I64; omega)) ?_; clear hF a; intro a hF
      refine ls_val hF (.on rfl rfl rfl rfl rfl) rfl rfl (ex_leq rfl rfl rfl) ?_; clear hF a; intro a hF
      refine ls_val hF (.free rfl) rfl rfl (ex_pick_t rfl rfl rfl) ?_; clear hF a; intro a hF
      refine ls_val hF (.free rfl) rfl rfl (ex_assign rfl rfl) ?_; clear hF a; intro a hF
      refine ls_nil ?_
      refine then_normal ?_
      refine wp_ret ?_
      refine inb_ret (then_ret ((fin1 hF rfl rfl ⟨_, rfl, ?_⟩)))
      exact ⟨B_congr (by unfold okF; omega), hS.sub (.cons _ .slnil)⟩
     ·
      refine ls_off hF (.on rfl rfl rfl rfl rfl) rfl rfl ?_; clear hF a; intro a hF
      refine ls_off hF (.on rfl rfl rfl rfl rfl) rfl rfl ?_; clear hF a; intro a hF
      refine ls_off hF (.on rfl rfl rfl rfl rfl) rfl rfl ?_; clear hF a; intro a hF
      refine ls_off hF (.on rfl rfl rfl rfl rfl) rfl rfl ?_; clear hF a; intro a hF
      refine ls_off hF (.on rfl rfl rfl rfl rfl) rfl rfl ?_; clear hF a; intro a hF
      refine ls_val hF (.free rfl) rfl rfl (ex_pick_f rfl rfl rfl) ?_; clear hF a; intro a hF
      refine ls_val hF (.free rfl) rfl rfl (ex_assign rfl rfl) ?_; clear hF a; intro a hF
      refine ls_nil ?_
      refine then_normal ?_
      refine wp_ret ?_
      refine inb_ret (then_ret ((fin1 hF rfl rfl ⟨_, rfl, ?_⟩)))
      exact ⟨false_B (by unfold okF; omega), hS.sub (.cons _ .slnil)⟩
    ·
     refine wp_skip ?_
     refine inb_normal ?_
     refine then_normal ?_
     refine cw_seq ?_
     refine wp_region_lit ?_
     refine ls_val hF (.free rfl) rfl rfl (ex_assign rfl rfl) ?_; clear hF a; intro a hF
     refine ls_nil ?_
     refine then_normal ?_
     refine wp_ret ?_
     refine (fin1 hF rfl rfl ⟨_, rfl, ?_⟩)
     exact ⟨false_B (by unfold okF; omega), hS.sub (.cons _ .slnil)⟩

set_option maxRecDepth 20000 in
theorem c_rapply {kind k x c : Int} (w0 : World) (hx : (-9223372036854775808 ≤ x ∧ x ≤ 9223372036854775807)) (hc : (-9223372036854775808 ≤ c ∧ c ≤ 9223372036854775807)) :
    Calls Try.prog 22 [.agg #[.int .i64 kind, .int .i64 k], .int .i64 x, .int .i64 c].toArray w0 fun e w => ∃ v, e = .returned v ∧ ∃ a e, v = .tuple #[.int .i64 a, .int .i64 e] ∧ ApplyR kind k x c a e ∧ Sat w0 w [] := by
  refine enterS (vs := [.agg #[.int .i64 kind, .int .i64 k], .int .i64 x, .int .i64 c]) Try.func22 rfl Try.ntmps22 rfl ?_
  intro a w hS hF
  refine cw_seq ?_
  refine wp_region_lit ?_
  refine ls_any hF (.free rfl) rfl rfl (ex_box (cs := [.int .i64 kind, .int .i64 k]) rfl hS rfl rfl) ?_; clear hF; rintro _ w ⟨g1, rfl, hS⟩ a hF
  replace hS : Sat w0 w [.blk g1 [.int .i64 kind, .int .i64 k]] := hS
  refine ls_val hF (.free rfl) rfl rfl (ex_assign rfl rfl) ?_; clear hF a; intro a hF
  refine ls_val hF (.free rfl) rfl rfl (ex_assign rfl rfl) ?_; clear hF a; intro a hF
  refine ls_nil ?_
  refine then_normal ?_
  refine cw_seq ?_
  refine cw_seq ?_
  refine wp_region_lit ?_
  refine ls_val hF (.free rfl) rfl rfl (ex_move rfl rfl) ?_; clear hF a; intro a hF
  refine ls_val hF (.free rfl) rfl rfl (ex_lss rfl rfl rfl) ?_; clear hF a; intro a hF
  refine ls_val hF (.free rfl) rfl rfl (ex_move rfl rfl) ?_; clear hF a; intro a hF
  refine by_slot hF (d := 10) rfl ?_ ?_ <;> clear hF <;> intro hc hF
  ·
   refine ls_off hF (.on rfl rfl rfl rfl rfl) rfl rfl ?_; clear hF a; intro a hF
   refine ls_off hF (.on rfl rfl rfl rfl rfl) rfl rfl ?_; clear hF a; intro a hF
   refine ls_val hF (.free rfl) rfl rfl (ex_pick_t rfl rfl rfl) ?_; clear hF a; intro a hF
   refine ls_val hF (.free rfl) rfl rfl (ex_move rfl rfl) ?_; clear hF a; intro a hF
   refine ls_off hF (.on rfl rfl rfl rfl rfl) rfl rfl ?_; clear hF a; intro a hF
   refine ls_off hF (.on rfl rfl rfl rfl rfl) rfl rfl ?_; clear hF a; intro a hF
   refine ls_off hF (.on rfl rfl rfl rfl rfl) rfl rfl ?_; clear hF a; intro a hF
   refine ls_off hF (.on rfl rfl rfl rfl rfl) rfl rfl ?_; clear hF a; intro a hF
   refine ls_val hF (.free rfl) rfl rfl (ex_pick_t rfl rfl rfl) ?_; clear hF a; intro a hF
   refine ls_val hF (.free rfl) rfl rfl (ex_move rfl rfl) ?_; clear hF a; intro a hF
   refine ls_off hF (.on rfl rfl rfl rfl rfl) rfl rfl ?_; clear hF a; intro a hF
   refine ls_off hF (.on rfl rfl rfl rfl rfl) rfl rfl ?_; clear hF a; intro a hF
   refine ls_val hF (.free rfl) rfl rfl (ex_pick_t rfl rfl rfl) ?_; clear hF a; intro a hF
   refine ls_val hF (.free rfl) rfl rfl (ex_move rfl rfl) ?_; clear hF a; intro a hF
   refine ls_off hF (.on rfl rfl rfl rfl rfl) rfl rfl ?_; clear hF a; intro a hF
   refine ls_off hF (.on rfl rfl rfl rfl rfl) rfl rfl ?_; clear hF a; intro a hF
   refine ls_off hF (.on rfl rfl rfl rfl rfl) rfl rfl ?_; clear hF a; intro a hF
   refine ls_val hF (.free rfl) rfl rfl (ex_pick_t rfl rfl rfl) ?_; clear hF a; intro a hF
   refine ls_nil ?_
   refine then_normal ?_
   refine cw_t hF rfl ?_
   refine cw_seq ?_
   refine wp_region_lit ?_
   refine ls_val hF (.free rfl) rfl rfl (ex_assign rfl rfl) ?_; clear hF a; intro a hF
   refine ls_val hF (.free rfl) rfl rfl (ex_assign rfl rfl) ?_; clear hF a; intro a hF
   refine ls_nil ?_
   refine then_normal ?_
   refine wp_ret ?_
   refine then_ret ((fin2 hF rfl rfl rfl ⟨_, rfl, ?_⟩))
   exact ⟨0, 1, rfl, .inr ⟨by rintro ⟨h1, h2, h3, h4⟩; first | omega | exact absurd h3 ‹_›, rfl, rfl⟩, hS.sub (.cons _ .slnil)⟩
  ·
   refine ls_val hF (.on rfl rfl rfl rfl rfl) rfl rfl (ex_move rfl rfl) ?_; clear hF a; intro a hF
   refine ls_val hF (.on rfl rfl rfl rfl rfl) rfl rfl (ex_gtr rfl rfl rfl) ?_; clear hF a; intro a hF
   refine ls_val hF (.free rfl) rfl rfl (ex_pick_f rfl rfl rfl) ?_; clear hF a; intro a hF
   refine ls_val hF (.free rfl) rfl rfl (ex_move rfl rfl) ?_; clear hF a; intro a hF
   refine by_slot hF (d := 14) rfl ?_ ?_ <;> clear hF <;> intro hc hF
   ·
    refine ls_off hF (.on rfl rfl rfl rfl rfl) rfl rfl ?_; clear hF a; intro a hF
    refine ls_off hF (.on rfl rfl rfl rfl rfl) rfl rfl ?_; clear hF a; intro a hF
    refine ls_off hF (.on rfl rfl rfl rfl rfl) rfl rfl ?_; clear hF a; intro a hF
    refine ls_off hF (.on rfl rfl rfl rfl rfl) rfl rfl ?_; clear hF a; intro a hF
    refine ls_val hF (.free rfl) rfl rfl (ex_pick_t rfl rfl rfl) ?_; clear hF a; intro a hF
    refine ls_val hF (.free rfl) rfl rfl (ex_move rfl rfl) ?_; clear hF a; intro a hF
    refine ls_off hF (.on rfl rfl rfl rfl rfl) rfl rfl ?_; clear hF a; intro a hF
    refine ls_off hF (.on rfl rfl rfl rfl rfl) rfl rfl ?_; clear hF a; intro a hF
    refine ls_val hF (.free rfl) rfl rfl (ex_pick_t rfl rfl rfl) ?_; clear hF a; intro a hF
    refine ls_val hF (.free rfl) rfl rfl (ex_move rfl rfl) ?_; clear hF a; intro a hF
    refine ls_off hF (.on rfl rfl rfl rfl rfl) rfl rfl ?_; clear hF a; intro a hF
    refine ls_off hF (.on rfl rfl rfl rfl rfl) rfl rfl ?_; clear hF a; intro a hF
    refine ls_off hF (.on rfl rfl rfl rfl rfl) rfl rfl ?_; clear hF a; intro a hF
    refine ls_val hF (.free rfl) rfl rfl (ex_pick_t rfl rfl rfl) ?_; clear hF a; intro a hF
    refine ls_nil ?_
    refine then_normal ?_
    refine cw_t hF rfl ?_
    refine cw_seq ?_
    refine wp_region_lit ?_
    refine ls_val hF (.free rfl) rfl rfl (ex_assign rfl rfl) ?_; clear hF a; intro a hF
    refine ls_val hF (.free rfl) rfl rfl (ex_assign rfl rfl) ?_; clear hF a; intro a hF
    refine ls_nil ?_
    refine then_normal ?_
    refine wp_ret ?_
    refine then_ret ((fin2 hF rfl rfl rfl ⟨_, rfl, ?_⟩))
    exact ⟨0, 1, rfl, .inr ⟨by rintro ⟨h1, h2, h3, h4⟩; first | omega | exact absurd h3 ‹_›, rfl, rfl⟩, hS.sub (.cons _ .slnil)⟩
   ·
    refine ls_val hF (.on rfl rfl rfl rfl rfl) rfl rfl (ex_loads_blk 0 rfl st_26 rfl hS rfl rfl) ?_; clear hF a; intro a hF
    refine ls_val hF (.on rfl rfl rfl rfl rfl) rfl rfl (ex_move rfl rfl) ?_; clear hF a; intro a hF
    refine ls_call hF (.on rfl rfl rfl rfl rfl) rfl rfl (ex_call0 rfl rfl cl_27 (args_cons rfl (args_cons rfl args0))) (c_rvalid (kind := kind) (k := k) (c := c) w (by omega) (by omega)) ?_; clear hF; rintro _ w ⟨rfl, hS'⟩ a hF
    replace hS : Sat w0 w [.blk g1 [.int .i64 kind, .int .i64 k]] := hS.comp hS'; clear hS'
    refine ls_val hF (.on rfl rfl rfl rfl rfl) rfl rfl (ex_not rfl rfl) ?_; clear hF a; intro a hF
    refine ls_val hF (.free rfl) rfl rfl (ex_pick_f rfl rfl rfl) ?_; clear hF a; intro a hF
    refine ls_val hF (.free rfl) rfl rfl (ex_move rfl rfl) ?_; clear hF a; intro a hF
    refine by_slot hF (d := 20) rfl ?_ ?_ <;> clear hF <;> intro hc hF
    ·
     refine ls_off hF (.on rfl rfl rfl rfl rfl) rfl rfl ?_; clear hF a; intro a hF
     refine ls_off hF (.on rfl rfl rfl rfl rfl) rfl rfl ?_; clear hF a; intro a hF
     refine ls_val hF (.free rfl) rfl rfl (ex_pick_t rfl rfl rfl) ?_; clear hF a; intro a hF
     refine ls_val hF (.free rfl) rfl rfl (ex_move rfl rfl) ?_; clear hF a; intro a hF
     refine ls_off hF (.on rfl rfl rfl rfl rfl) rfl rfl ?_; clear hF a; intro a hF
     refine ls_off hF (.on rfl rfl rfl rfl rfl) rfl rfl ?_; clear hF a; intro a hF
     refine ls_off hF (.on rfl rfl rfl rfl rfl) rfl rfl ?_; clear hF a; intro a hF
     refine ls_val hF (.free rfl) rfl rfl (ex_pick_t rfl rfl rfl) ?_; clear hF a; intro a hF
     refine ls_nil ?_
     refine then_normal ?_
     refine cw_t hF rfl ?_
     refine cw_seq ?_
     refine wp_region_lit ?_
     refine ls_val hF (.free rfl) rfl rfl (ex_assign rfl rfl) ?_; clear hF a; intro a hF
     refine ls_val hF (.free rfl) rfl rfl (ex_assign rfl rfl) ?_; clear hF a; intro a hF
     refine ls_nil ?_
     refine then_normal ?_
     refine wp_ret ?_
     refine then_ret ((fin2 hF rfl rfl rfl ⟨_, rfl, ?_⟩))
     exact ⟨0, 1, rfl, .inr ⟨by rintro ⟨h1, h2, h3, h4⟩; first | omega | exact absurd h3 ‹_›, rfl, rfl⟩, hS.sub (.cons _ .slnil)⟩
    ·
     refine ls_val hF (.on rfl rfl rfl rfl rfl) rfl rfl (ex_move rfl rfl) ?_; clear hF a; intro a hF
     refine ls_val hF (.on rfl rfl rfl rfl rfl) rfl rfl (ex_lss rfl rfl rfl) ?_; clear hF a; intro a hF
     refine ls_val hF (.free rfl) rfl rfl (ex_pick_f rfl rfl rfl) ?_; clear hF a; intro a hF
     refine ls_val hF (.free rfl) rfl rfl (ex_move rfl rfl) ?_; clear hF a; intro a hF
     refine by_slot hF (d := 24) rfl ?_ ?_ <;> clear hF <;> intro hc hF
     ·
      refine ls_off hF (.on rfl rfl rfl rfl rfl) rfl rfl ?_; clear hF a; intro a hF
      refine ls_off hF (.on rfl rfl rfl rfl rfl) rfl rfl ?_; clear hF a; intro a hF
      refine ls_off hF (.on rfl rfl rfl rfl rfl) rfl rfl ?_; clear hF a; intro a hF
      refine ls_val hF (.free rfl) rfl rfl (ex_pick_t rfl rfl rfl) ?_; clear hF a; intro a hF
      refine ls_nil ?_
      refine then_normal ?_
      refine cw_t hF rfl ?_
      refine cw_seq ?_
      refine wp_region_lit ?_
      refine ls_val hF (.free rfl) rfl rfl (ex_assign rfl rfl) ?_; clear hF a; intro a hF
      refine ls_val hF (.free rfl) rfl rfl (ex_assign rfl rfl) ?_; clear hF a; intro a hF
      refine ls_nil ?_
      refine then_normal ?_
      refine wp_ret ?_
      refine then_ret ((fin2 hF rfl rfl rfl ⟨_, rfl, ?_⟩))
      exact ⟨0, 1, rfl, .inr ⟨by rintro ⟨h1, h2, h3, h4⟩; first | omega | exact absurd h3 ‹_›, rfl, rfl⟩, hS.sub (.cons _ .slnil)⟩
     ·
      refine ls_val hF (.on rfl rfl rfl rfl rfl) rfl rfl (ex_move rfl rfl) ?_; clear hF a; intro a hF
      refine ls_val hF (.on rfl rfl rfl rfl rfl) rfl rfl (ex_move rfl rfl) ?_; clear hF a; intro a hF
      refine ls_val hF (.on rfl rfl rfl rfl rfl) rfl rfl (ex_gtr rfl rfl rfl) ?_; clear hF a; intro a hF
      refine ls_val hF (.free rfl) rfl rfl (ex_pick_f rfl rfl rfl) ?_; clear hF a; intro a hF
      refine ls_nil ?_
      refine then_normal ?_
      refine cw_if hF rfl (fun hc => ?_) (fun hc => ?_)
      ·
       refine cw_seq ?_
       refine wp_region_lit ?_
       refine ls_val hF (.free rfl) rfl rfl (ex_assign rfl rfl) ?_; clear hF a; intro a hF
       refine ls_val hF (.free rfl) rfl rfl (ex_assign rfl rfl) ?_; clear hF a; intro a hF
       refine ls_nil ?_
       refine then_normal ?_
       refine wp_ret ?_
       refine then_ret ((fin2 hF rfl rfl rfl ⟨_, rfl, ?_⟩))
       exact ⟨0, 1, rfl, .inr ⟨by rintro ⟨h1, h2, h3, h4⟩; first | omega | exact absurd h3 ‹_›, rfl, rfl⟩, hS.sub (.cons _ .slnil)⟩
      ·
       refine wp_skip ?_
       refine then_normal ?_
       refine cw_seq ?_
       refine wp_block ?_
       refine cw_seq ?_
       refine wp_region_lit ?_
       refine ls_val hF (.free rfl) rfl rfl (ex_field (b := ⟨g1, 0, none⟩) rfl fd_26_0 rfl rfl) ?_; clear hF a; intro a hF
       have hok := (Classical.not_not.1 ‹¬ ¬ (okF kind k c)›); have hok2 := hok; unfold okF at hok2; have hh := half_facts (show 0 ≤ c by omega)
       refine ls_val hF (.free rfl) rfl rfl (ex_load_blk 0 rfl pl_3 rfl hS rfl rfl) ?_; clear hF a; intro a hF
       refine ls_val hF (.free rfl) rfl rfl (ex_eql rfl rfl rfl) ?_; clear hF a; intro a hF
       refine ls_val hF (.free rfl) rfl rfl (ex_assign rfl rfl) ?_; clear hF a; intro a hF
       refine ls_nil ?_
       refine then_normal ?_
       refine cw_if hF rfl (fun hc => ?_) (fun hc => ?_)
       ·
        refine cw_seq ?_
        refine wp_region_lit ?_
        refine ls_val hF (.free rfl) rfl rfl (ex_move rfl rfl) ?_; clear hF a; intro a hF
        refine ls_val hF (.free rfl) rfl rfl (ex_assign rfl rfl) ?_; clear hF a; intro a hF
        refine ls_val hF (.free rfl) rfl rfl (ex_assign rfl rfl) ?_; clear hF a; intro a hF
        refine ls_nil ?_
        refine then_normal ?_
        refine wp_ret ?_
        refine inb_ret (then_ret ((fin2 hF rfl rfl rfl ⟨_, rfl, ?_⟩)))
        first
        | exact ⟨_, 0, rfl, .inl ⟨by omega, by omega, hok, by omega, by omega, (by obtain rfl : kind = 0 := (by omega); exact dfv0.symm), rfl⟩, hS.sub (.cons _ .slnil)⟩
        | exact ⟨_, 0, rfl, .inl ⟨by omega, by omega, hok, by omega, by omega, (by obtain rfl : kind = 1 := (by omega); exact (dfv1a ‹_›).symm), rfl⟩, hS.sub (.cons _ .slnil)⟩
        | exact ⟨_, 0, rfl, .inl ⟨by omega, by omega, hok, by omega, by omega, (by obtain rfl : kind = 1 := (by omega); exact (dfv1b (by omega)).symm), rfl⟩, hS.sub (.cons _ .slnil)⟩
        | exact ⟨_, 0, rfl, .inl ⟨by omega, by omega, hok, by omega, by omega, (by obtain rfl : kind = 2 := (by omega); exact (dfv2a (by omega)).symm), rfl⟩, hS.sub (.cons _ .slnil)⟩
        | exact ⟨_, 0, rfl, .inl ⟨by omega, by omega, hok, by omega, by omega, (by obtain rfl : kind = 2 := (by omega); exact (dfv2b (by omega) (by omega)).symm), rfl⟩, hS.sub (.cons _ .slnil)⟩
        | exact ⟨_, 0, rfl, .inl ⟨by omega, by omega, hok, by omega, by omega, (by obtain rfl : kind = 2 := (by omega); exact (dfv2c (by omega) (by omega)).symm), rfl⟩, hS.sub (.cons _ .slnil)⟩
       ·
        refine cw_seq ?_
        refine wp_region_lit ?_
        refine ls_val hF (.free rfl) rfl rfl (ex_field (b := ⟨g1, 0, none⟩) rfl fd_26_0 rfl rfl) ?_; clear hF a; intro a hF
        refine ls_val hF (.free rfl) rfl rfl (ex_load_blk 0 rfl pl_3 rfl hS rfl rfl) ?_; clear hF a; intro a hF
        refine ls_val hF (.free rfl) rfl rfl (ex_eql rfl rfl rfl) ?_; clear hF a; intro a hF
        refine ls_val hF (.free rfl) rfl rfl (ex_move rfl rfl) ?_; clear hF a; intro a hF
        refine by_slot hF (d := 38) rfl ?_ ?_ <;> clear hF <;> intro hc hF
        ·
         refine ls_val hF (.on rfl rfl rfl rfl rfl) rfl rfl (ex_field (b := ⟨g1, 1, none⟩) rfl fd_26_1 rfl rfl) ?_; clear hF a; intro a hF
         have hs := step_facts (k := k) (by omega) (show 0 ≤ x by omega) (show x ≤ c by omega) (by omega) (by omega)
         refine ls_val hF (.on rfl rfl rfl rfl rfl) rfl rfl (ex_load_blk 0 rfl pl_3 rfl hS rfl rfl) ?_; clear hF a; intro a hF
         have hs := step_facts (k := k) (by omega) (show 0 ≤ x by omega) (show x ≤ c by omega) (by omega) (by omega)
         refine ls_val hF (.on rfl rfl rfl rfl rfl) rfl rfl (ex_add (r := k + 1) rfl rfl rfl (by omega) (by unfold I64; omega)) ?_; clear hF a; intro a hF
         refine ls_val hF (.on rfl rfl rfl rfl rfl) rfl rfl (ex_move rfl rfl) ?_; clear hF a; intro a hF
         refine ls_val hF (.on rfl rfl rfl rfl rfl) rfl rfl (ex_mul (r := ((k + 1) * x)) rfl rfl rfl rfl (by unfold I64; omega)) ?_; clear hF a; intro a hF
         refine ls_val hF (.on rfl rfl rfl rfl rfl) rfl rfl (ex_move rfl rfl) ?_; clear hF a; intro a hF
         refine ls_val hF (.on rfl rfl rfl rfl rfl) rfl rfl (ex_rem (r := (Int.tmod ((k + 1) * x) c)) rfl rfl rfl (by omega) rfl) ?_; clear hF a; intro a hF
         refine ls_val hF (.on rfl rfl rfl rfl rfl) rfl rfl (ex_eql rfl rfl rfl) ?_; clear hF a; intro a hF
         refine ls_val hF (.free rfl) rfl rfl (ex_pick_t rfl rfl rfl) ?_; clear hF a; intro a hF
         refine ls_val hF (.free rfl) rfl rfl (ex_assign rfl rfl) ?_; clear hF a; intro a hF
         refine ls_nil ?_
         refine then_normal ?_
         refine cw_if hF rfl (fun hc => ?_) (fun hc => ?_)
         ·
          refine cw_seq ?_
          refine wp_region_lit ?_
          refine ls_val hF (.free rfl) rfl rfl (ex_field (b := ⟨g1, 1, none⟩) rfl fd_26_1 rfl rfl) ?_; clear hF a; intro a hF
          refine ls_val hF (.free rfl) rfl rfl (ex_load_blk 0 rfl pl_3 rfl hS rfl rfl) ?_; clear hF a; intro a hF
          have hs := step_facts (k := k) (by omega) (show 0 ≤ x by omega) (show x ≤ c by omega) (by omega) (by omega)
          refine ls_val hF (.free rfl) rfl rfl (ex_move rfl rfl) ?_; clear hF a; intro a hF
          refine ls_val hF (.free rfl) rfl rfl (ex_mul (r := (k * x)) rfl rfl rfl rfl (by unfold I64; omega)) ?_; clear hF a; intro a hF
          refine ls_val hF (.free rfl) rfl rfl (ex_assign rfl rfl) ?_; clear hF a; intro a hF
          refine ls_val hF (.free rfl) rfl rfl (ex_assign rfl rfl) ?_; clear hF a; intro a hF
          refine ls_nil ?_
          refine then_normal ?_
          refine wp_ret ?_
          refine inb_ret (then_ret ((fin2 hF rfl rfl rfl ⟨_, rfl, ?_⟩)))
          first
          | exact ⟨_, 0, rfl, .inl ⟨by omega, by omega, hok, by omega, by omega, (by obtain rfl : kind = 0 := (by omega); exact dfv0.symm), rfl⟩, hS.sub (.cons _ .slnil)⟩
          | exact ⟨_, 0, rfl, .inl ⟨by omega, by omega, hok, by omega, by omega, (by obtain rfl : kind = 1 := (by omega); exact (dfv1a ‹_›).symm), rfl⟩, hS.sub (.cons _ .slnil)⟩
          | exact ⟨_, 0, rfl, .inl ⟨by omega, by omega, hok, by omega, by omega, (by obtain rfl : kind = 1 := (by omega); exact (dfv1b (by omega)).symm), rfl⟩, hS.sub (.cons _ .slnil)⟩
          | exact ⟨_, 0, rfl, .inl ⟨by omega, by omega, hok, by omega, by omega, (by obtain rfl : kind = 2 := (by omega); exact (dfv2a (by omega)).symm), rfl⟩, hS.sub (.cons _ .slnil)⟩
          | exact ⟨_, 0, rfl, .inl ⟨by omega, by omega, hok, by omega, by omega, (by obtain rfl : kind = 2 := (by omega); exact (dfv2b (by omega) (by omega)).symm), rfl⟩, hS.sub (.cons _ .slnil)⟩
          | exact ⟨_, 0, rfl, .inl ⟨by omega, by omega, hok, by omega, by omega, (by obtain rfl : kind = 2 := (by omega); exact (dfv2c (by omega) (by omega)).symm), rfl⟩, hS.sub (.cons _ .slnil)⟩
         ·
          refine cw_seq ?_
          refine wp_region_lit ?_
          refine ls_val hF (.free rfl) rfl rfl (ex_field (b := ⟨g1, 0, none⟩) rfl fd_26_0 rfl rfl) ?_; clear hF a; intro a hF
          refine ls_val hF (.free rfl) rfl rfl (ex_load_blk 0 rfl pl_3 rfl hS rfl rfl) ?_; clear hF a; intro a hF
          refine ls_val hF (.free rfl) rfl rfl (known_t (ex_eql rfl rfl rfl) (by omega)) ?_; clear hF a; intro a hF
          refine ls_val hF (.free rfl) rfl rfl (ex_assign rfl rfl) ?_; clear hF a; intro a hF
          refine ls_nil ?_
          refine then_normal ?_
          refine cw_t hF rfl ?_
          refine cw_seq ?_
          refine wp_region_lit ?_
          refine ls_val hF (.free rfl) rfl rfl (ex_field (b := ⟨g1, 1, none⟩) rfl fd_26_1 rfl rfl) ?_; clear hF a; intro a hF
          refine ls_val hF (.free rfl) rfl rfl (ex_load_blk 0 rfl pl_3 rfl hS rfl rfl) ?_; clear hF a; intro a hF
          have hs := step_facts (k := k) (by omega) (show 0 ≤ x by omega) (show x ≤ c by omega) (by omega) (by omega)
          refine ls_val hF (.free rfl) rfl rfl (ex_add (r := k + 1) rfl rfl rfl (by omega) (by unfold I64; omega)) ?_; clear hF a; intro a hF
          refine ls_val hF (.free rfl) rfl rfl (ex_move rfl rfl) ?_; clear hF a; intro a hF
          refine ls_val hF (.free rfl) rfl rfl (ex_mul (r := ((k + 1) * x)) rfl rfl rfl rfl (by unfold I64; omega)) ?_; clear hF a; intro a hF
          refine ls_val hF (.free rfl) rfl rfl (ex_move rfl rfl) ?_; clear hF a; intro a hF
          refine ls_val hF (.free rfl) rfl rfl (ex_quo (r := (Int.tdiv ((k + 1) * x) c)) rfl rfl rfl (by omega) rfl (by unfold I64; omega)) ?_; clear hF a; intro a hF
          refine ls_val hF (.free rfl) rfl rfl (ex_move rfl rfl) ?_; clear hF a; intro a hF
          refine ls_val hF (.free rfl) rfl rfl (ex_mul (r := ((Int.tdiv ((k + 1) * x) c) * c)) rfl rfl rfl rfl (by unfold I64; omega)) ?_; clear hF a; intro a hF
          refine ls_val hF (.free rfl) rfl rfl (ex_assign rfl rfl) ?_; clear hF a; intro a hF
          refine ls_val hF (.free rfl) rfl rfl (ex_assign rfl rfl) ?_; clear hF a; intro a hF
          refine ls_nil ?_
          refine then_normal ?_
          refine wp_ret ?_
          refine inb_ret (then_ret ((fin2 hF rfl rfl rfl ⟨_, rfl, ?_⟩)))
          first
          | exact ⟨_, 0, rfl, .inl ⟨by omega, by omega, hok, by omega, by omega, (by obtain rfl : kind = 0 := (by omega); exact dfv0.symm), rfl⟩, hS.sub (.cons _ .slnil)⟩
          | exact ⟨_, 0, rfl, .inl ⟨by omega, by omega, hok, by omega, by omega, (by obtain rfl : kind = 1 := (by omega); exact (dfv1a ‹_›).symm), rfl⟩, hS.sub (.cons _ .slnil)⟩
          | exact ⟨_, 0, rfl, .inl ⟨by omega, by omega, hok, by omega, by omega, (by obtain rfl : kind = 1 := (by omega); exact (dfv1b (by omega)).symm), rfl⟩, hS.sub (.cons _ .slnil)⟩
          | exact ⟨_, 0, rfl, .inl ⟨by omega, by omega, hok, by omega, by omega, (by obtain rfl : kind = 2 := (by omega); exact (dfv2a (by omega)).symm), rfl⟩, hS.sub (.cons _ .slnil)⟩
          | exact ⟨_, 0, rfl, .inl ⟨by omega, by omega, hok, by omega, by omega, (by obtain rfl : kind = 2 := (by omega); exact (dfv2b (by omega) (by omega)).symm), rfl⟩, hS.sub (.cons _ .slnil)⟩
          | exact ⟨_, 0, rfl, .inl ⟨by omega, by omega, hok, by omega, by omega, (by obtain rfl : kind = 2 := (by omega); exact (dfv2c (by omega) (by omega)).symm), rfl⟩, hS.sub (.cons _ .slnil)⟩
        ·
         refine ls_off hF (.on rfl rfl rfl rfl rfl) rfl rfl ?_; clear hF a; intro a hF
         refine ls_off hF (.on rfl rfl rfl rfl rfl) rfl rfl ?_; clear hF a; intro a hF
         refine ls_off hF (.on rfl rfl rfl rfl rfl) rfl rfl ?_; clear hF a; intro a hF
         refine ls_off hF (.on rfl rfl rfl rfl rfl) rfl rfl ?_; clear hF a; intro a hF
         refine ls_off hF (.on rfl rfl rfl rfl rfl) rfl rfl ?_; clear hF a; intro a hF
         refine ls_off hF (.on rfl rfl rfl rfl rfl) rfl rfl ?_; clear hF a; intro a hF
         refine ls_off hF (.on rfl rfl rfl rfl rfl) rfl rfl ?_; clear hF a; intro a hF
         refine ls_off hF (.on rfl rfl rfl rfl rfl) rfl rfl ?_; clear hF a; intro a hF
         refine ls_val hF (.free rfl) rfl rfl (ex_pick_f rfl rfl rfl) ?_; clear hF a; intro a hF
         refine ls_val hF (.free rfl) rfl rfl (ex_assign rfl rfl) ?_; clear hF a; intro a hF
         refine ls_nil ?_
         refine then_normal ?_
         refine cw_f hF rfl ?_
         refine cw_seq ?_
         refine wp_region_lit ?_
         refine ls_val hF (.free rfl) rfl rfl (ex_field (b := ⟨g1, 0, none⟩) rfl fd_26_0 rfl rfl) ?_; clear hF a; intro a hF
         refine ls_val hF (.free rfl) rfl rfl (ex_load_blk 0 rfl pl_3 rfl hS rfl rfl) ?_; clear hF a; intro a hF
         refine ls_val hF (.free rfl) rfl rfl (ex_eql rfl rfl rfl) ?_; clear hF a; intro a hF
         refine ls_val hF (.free rfl) rfl rfl (ex_assign rfl rfl) ?_; clear hF a; intro a hF
         refine ls_nil ?_
         refine then_normal ?_
         refine cw_if hF rfl (fun hc => ?_) (fun hc => ?_)
         ·
          refine cw_seq ?_
          refine wp_region_lit ?_
          refine ls_val hF (.free rfl) rfl rfl (ex_field (b := ⟨g1, 1, none⟩) rfl fd_26_1 rfl rfl) ?_; clear hF a; intro a hF
          refine ls_val hF (.free rfl) rfl rfl (ex_load_blk 0 rfl pl_3 rfl hS rfl rfl) ?_; clear hF a; intro a hF
          have hs := step_facts (k := k) (by omega) (show 0 ≤ x by omega) (show x ≤ c by omega) (by omega) (by omega)
          refine ls_val hF (.free rfl) rfl rfl (ex_add (r := k + 1) rfl rfl rfl (by omega) (by unfold I64; omega)) ?_; clear hF a; intro a hF
          refine ls_val hF (.free rfl) rfl rfl (ex_move rfl rfl) ?_; clear hF a; intro a hF
          refine ls_val hF (.free rfl) rfl rfl (ex_mul (r := ((k + 1) * x)) rfl rfl rfl rfl (by unfold I64; omega)) ?_; clear hF a; intro a hF
          refine ls_val hF (.free rfl) rfl rfl (ex_move rfl rfl) ?_; clear hF a; intro a hF
          refine ls_val hF (.free rfl) rfl rfl (ex_quo (r := (Int.tdiv ((k + 1) * x) c)) rfl rfl rfl (by omega) rfl (by unfold I64; omega)) ?_; clear hF a; intro a hF
          refine ls_val hF (.free rfl) rfl rfl (ex_move rfl rfl) ?_; clear hF a; intro a hF
          refine ls_val hF (.free rfl) rfl rfl (ex_mul (r := ((Int.tdiv ((k + 1) * x) c) * c)) rfl rfl rfl rfl (by unfold I64; omega)) ?_; clear hF a; intro a hF
          refine ls_val hF (.free rfl) rfl rfl (ex_assign rfl rfl) ?_; clear hF a; intro a hF
          refine ls_val hF (.free rfl) rfl rfl (ex_assign rfl rfl) ?_; clear hF a; intro a hF
          refine ls_nil ?_
          refine then_normal ?_
          refine wp_ret ?_
          refine inb_ret (then_ret ((fin2 hF rfl rfl rfl ⟨_, rfl, ?_⟩)))
          first
          | exact ⟨_, 0, rfl, .inl ⟨by omega, by omega, hok, by omega, by omega, (by obtain rfl : kind = 0 := (by omega); exact dfv0.symm), rfl⟩, hS.sub (.cons _ .slnil)⟩
          | exact ⟨_, 0, rfl, .inl ⟨by omega, by omega, hok, by omega, by omega, (by obtain rfl : kind = 1 := (by omega); exact (dfv1a ‹_›).symm), rfl⟩, hS.sub (.cons _ .slnil)⟩
          | exact ⟨_, 0, rfl, .inl ⟨by omega, by omega, hok, by omega, by omega, (by obtain rfl : kind = 1 := (by omega); exact (dfv1b (by omega)).symm), rfl⟩, hS.sub (.cons _ .slnil)⟩
          | exact ⟨_, 0, rfl, .inl ⟨by omega, by omega, hok, by omega, by omega, (by obtain rfl : kind = 2 := (by omega); exact (dfv2a (by omega)).symm), rfl⟩, hS.sub (.cons _ .slnil)⟩
          | exact ⟨_, 0, rfl, .inl ⟨by omega, by omega, hok, by omega, by omega, (by obtain rfl : kind = 2 := (by omega); exact (dfv2b (by omega) (by omega)).symm), rfl⟩, hS.sub (.cons _ .slnil)⟩
          | exact ⟨_, 0, rfl, .inl ⟨by omega, by omega, hok, by omega, by omega, (by obtain rfl : kind = 2 := (by omega); exact (dfv2c (by omega) (by omega)).symm), rfl⟩, hS.sub (.cons _ .slnil)⟩
         ·
          refine cw_seq ?_
          refine wp_region_lit ?_
          refine ls_val hF (.free rfl) rfl rfl (ex_move rfl rfl) ?_; clear hF a; intro a hF
          refine ls_val hF (.free rfl) rfl rfl (ex_move rfl rfl) ?_; clear hF a; intro a hF
          refine ls_val hF (.free rfl) rfl rfl (ex_field (b := ⟨g1, 1, none⟩) rfl fd_26_1 rfl rfl) ?_; clear hF a; intro a hF
          refine ls_val hF (.free rfl) rfl rfl (ex_load_blk 0 rfl pl_3 rfl hS rfl rfl) ?_; clear hF a; intro a hF
          refine ls_val hF (.free rfl) rfl rfl (ex_sub (r := c - k) rfl rfl rfl (by omega) (by unfold I64; omega)) ?_; clear hF a; intro a hF
          refine ls_val hF (.free rfl) rfl rfl (ex_gtr rfl rfl rfl) ?_; clear hF a; intro a hF
          refine ls_val hF (.free rfl) rfl rfl (ex_assign rfl rfl) ?_; clear hF a; intro a hF
          refine ls_nil ?_
          refine then_normal ?_
          refine cw_if hF rfl (fun hc => ?_) (fun hc => ?_)
          ·
           refine cw_seq ?_
           refine wp_region_lit ?_
           refine ls_val hF (.free rfl) rfl rfl (ex_move rfl rfl) ?_; clear hF a; intro a hF
           refine ls_val hF (.free rfl) rfl rfl (ex_assign rfl rfl) ?_; clear hF a; intro a hF
           refine ls_val hF (.free rfl) rfl rfl (ex_assign rfl rfl) ?_; clear hF a; intro a hF
           refine ls_nil ?_
           refine then_normal ?_
           refine wp_ret ?_
           refine inb_ret (then_ret ((fin2 hF rfl rfl rfl ⟨_, rfl, ?_⟩)))
           first
           | exact ⟨_, 0, rfl, .inl ⟨by omega, by omega, hok, by omega, by omega, (by obtain rfl : kind = 0 := (by omega); exact dfv0.symm), rfl⟩, hS.sub (.cons _ .slnil)⟩
           | exact ⟨_, 0, rfl, .inl ⟨by omega, by omega, hok, by omega, by omega, (by obtain rfl : kind = 1 := (by omega); exact (dfv1a ‹_›).symm), rfl⟩, hS.sub (.cons _ .slnil)⟩
           | exact ⟨_, 0, rfl, .inl ⟨by omega, by omega, hok, by omega, by omega, (by obtain rfl : kind = 1 := (by omega); exact (dfv1b (by omega)).symm), rfl⟩, hS.sub (.cons _ .slnil)⟩
           | exact ⟨_, 0, rfl, .inl ⟨by omega, by omega, hok, by omega, by omega, (by obtain rfl : kind = 2 := (by omega); exact (dfv2a (by omega)).symm), rfl⟩, hS.sub (.cons _ .slnil)⟩
           | exact ⟨_, 0, rfl, .inl ⟨by omega, by omega, hok, by omega, by omega, (by obtain rfl : kind = 2 := (by omega); exact (dfv2b (by omega) (by omega)).symm), rfl⟩, hS.sub (.cons _ .slnil)⟩
           | exact ⟨_, 0, rfl, .inl ⟨by omega, by omega, hok, by omega, by omega, (by obtain rfl : kind = 2 := (by omega); exact (dfv2c (by omega) (by omega)).symm), rfl⟩, hS.sub (.cons _ .slnil)⟩
          ·
           refine cw_seq ?_
           refine wp_region_lit ?_
           refine ls_val hF (.free rfl) rfl rfl (ex_move rfl rfl) ?_; clear hF a; intro a hF
           refine ls_val hF (.free rfl) rfl rfl (ex_field (b := ⟨g1, 1, none⟩) rfl fd_26_1 rfl rfl) ?_; clear hF a; intro a hF
           refine ls_val hF (.free rfl) rfl rfl (ex_load_blk 0 rfl pl_3 rfl hS rfl rfl) ?_; clear hF a; intro a hF
           refine ls_val hF (.free rfl) rfl rfl (ex_lss rfl rfl rfl) ?_; clear hF a; intro a hF
           refine ls_val hF (.free rfl) rfl rfl (ex_assign rfl rfl) ?_; clear hF a; intro a hF
           refine ls_nil ?_
           refine then_normal ?_
           refine cw_if hF rfl (fun hc => ?_) (fun hc => ?_)
           ·
            refine cw_seq ?_
            refine wp_region_lit ?_
            refine ls_val hF (.free rfl) rfl rfl (ex_assign rfl rfl) ?_; clear hF a; intro a hF
            refine ls_val hF (.free rfl) rfl rfl (ex_assign rfl rfl) ?_; clear hF a; intro a hF
            refine ls_nil ?_
            refine then_normal ?_
            refine wp_ret ?_
            refine inb_ret (then_ret ((fin2 hF rfl rfl rfl ⟨_, rfl, ?_⟩)))
            first
            | exact ⟨_, 0, rfl, .inl ⟨by omega, by omega, hok, by omega, by omega, (by obtain rfl : kind = 0 := (by omega); exact dfv0.symm), rfl⟩, hS.sub (.cons _ .slnil)⟩
            | exact ⟨_, 0, rfl, .inl ⟨by omega, by omega, hok, by omega, by omega, (by obtain rfl : kind = 1 := (by omega); exact (dfv1a ‹_›).symm), rfl⟩, hS.sub (.cons _ .slnil)⟩
            | exact ⟨_, 0, rfl, .inl ⟨by omega, by omega, hok, by omega, by omega, (by obtain rfl : kind = 1 := (by omega); exact (dfv1b (by omega)).symm), rfl⟩, hS.sub (.cons _ .slnil)⟩
            | exact ⟨_, 0, rfl, .inl ⟨by omega, by omega, hok, by omega, by omega, (by obtain rfl : kind = 2 := (by omega); exact (dfv2a (by omega)).symm), rfl⟩, hS.sub (.cons _ .slnil)⟩
            | exact ⟨_, 0, rfl, .inl ⟨by omega, by omega, hok, by omega, by omega, (by obtain rfl : kind = 2 := (by omega); exact (dfv2b (by omega) (by omega)).symm), rfl⟩, hS.sub (.cons _ .slnil)⟩
            | exact ⟨_, 0, rfl, .inl ⟨by omega, by omega, hok, by omega, by omega, (by obtain rfl : kind = 2 := (by omega); exact (dfv2c (by omega) (by omega)).symm), rfl⟩, hS.sub (.cons _ .slnil)⟩
           ·
            refine wp_skip ?_
            refine inb_normal ?_
            refine then_normal ?_
            refine cw_seq ?_
            refine wp_region_lit ?_
            refine ls_val hF (.free rfl) rfl rfl (ex_move rfl rfl) ?_; clear hF a; intro a hF
            refine ls_val hF (.free rfl) rfl rfl (ex_assign rfl rfl) ?_; clear hF a; intro a hF
            refine ls_val hF (.free rfl) rfl rfl (ex_assign rfl rfl) ?_; clear hF a; intro a hF
            refine ls_nil ?_
            refine then_normal ?_
            refine wp_ret ?_
            refine (fin2 hF rfl rfl rfl ⟨_, rfl, ?_⟩)
            first
            | exact ⟨_, 0, rfl, .inl ⟨by omega, by omega, hok, by omega, by omega, (by obtain rfl : kind = 0 := (by omega); exact dfv0.symm), rfl⟩, hS.sub (.cons _ .slnil)⟩
            | exact ⟨_, 0, rfl, .inl ⟨by omega, by omega, hok, by omega, by omega, (by obtain rfl : kind = 1 := (by omega); exact (dfv1a ‹_›).symm), rfl⟩, hS.sub (.cons _ .slnil)⟩
            | exact ⟨_, 0, rfl, .inl ⟨by omega, by omega, hok, by omega, by omega, (by obtain rfl : kind = 1 := (by omega); exact (dfv1b (by omega)).symm), rfl⟩, hS.sub (.cons _ .slnil)⟩
            | exact ⟨_, 0, rfl, .inl ⟨by omega, by omega, hok, by omega, by omega, (by obtain rfl : kind = 2 := (by omega); exact (dfv2a (by omega)).symm), rfl⟩, hS.sub (.cons _ .slnil)⟩
            | exact ⟨_, 0, rfl, .inl ⟨by omega, by omega, hok, by omega, by omega, (by obtain rfl : kind = 2 := (by omega); exact (dfv2b (by omega) (by omega)).symm), rfl⟩, hS.sub (.cons _ .slnil)⟩
            | exact ⟨_, 0, rfl, .inl ⟨by omega, by omega, hok, by omega, by omega, (by obtain rfl : kind = 2 := (by omega); exact (dfv2c (by omega) (by omega)).symm), rfl⟩, hS.sub (.cons _ .slnil)⟩

end Go.Proofs.Ytmlfpniaknmmfaa
