/- The walk of the statement DualCheck. -/
import Derived.Test.YtigefiejddmidaaW5
namespace Go.Proofs.Ytigefiejddmidaa
open Go Go.RowKit Go.Proofs.Gw
set_option linter.unusedVariables false

theorem c_bound0 {v1 v2 v3 : Value} (w0 : World) (h : PAt w0 v1 v2 p0) (hY : IAt w0 v3 2 y0) :
    Calls Try.prog 11 [.agg #[v1, v2, .int .i64 10, .int .i64 0], .agg #[v3, .int .i64 1]].toArray w0 fun e w => ∃ v, e = .returned v ∧ v = .tuple #[.int .i64 4, .int .i64 0] ∧ Sat w0 w [] := by
  have := c_bound w0 h hY (q := 1) (by omega)
  rw [chk_p0, bnd_p0] at this
  exact this
theorem c_check1 {v1 v2 v3 : Value} (w0 : World) (h : PAt w0 v1 v2 p0) (hY : IAt w0 v3 2 y1) :
    Calls Try.prog 13 [.agg #[v1, v2, .int .i64 10, .int .i64 0], .agg #[v3, .int .i64 1]].toArray w0 fun e w => ∃ v, e = .returned v ∧ v = .int .i64 21 ∧ Sat w0 w [] := by
  have := c_check w0 h hY (q := 1) (by omega)
  rw [chk_p1] at this
  exact this

set_option maxRecDepth 20000 in
theorem c_awake  (w0 : World) :
    Calls Try.prog 8 [].toArray w0 fun e w => ∃ v, e = .returned v ∧ v = .bool true ∧ Sat w0 w [] := by
  refine enterS (vs := []) Try.func8 rfl Try.ntmps8 rfl ?_
  intro a w hS hF
  refine cw_seq ?_
  refine wp_region_lit ?_
  refine ls_val hF (.free rfl) rfl rfl (ex_assign rfl rfl) ?_; clear hF a; intro a hF
  refine ls_nil ?_
  refine then_normal ?_
  refine cw_seq ?_
  refine wp_region_lit ?_
  refine ls_any hF (.free rfl) rfl rfl (ex_lit (n := 2) (len := 2) (pv := [(0, .int .i64 6), (1, .int .i64 4)]) (cs := [.int .i64 6, .int .i64 4]) (c := ints (fun k => [6, 4].getD k.toNat 0)) rfl sl_22 el_3 hS (parts_cons rfl (parts_cons rfl parts0)) (by kernel_rfl) (by decide) (by decide) rfl rfl (fun k hk => by rcases k with _ | _ | k <;> first | rfl | (exfalso; omega)) (by omega)) ?_; clear hF; rintro v1 w ⟨hS, hv1⟩ a hF
  replace hS : Sat w0 w [.own v1 1 3 2 (ints (fun k => [6, 4].getD k.toNat 0))] := hS
  refine ls_any hF (.free rfl) rfl rfl (ex_lit (n := 2) (len := 2) (pv := [(0, .int .i64 4), (1, .int .i64 4)]) (cs := [.int .i64 4, .int .i64 4]) (c := ints (fun k => [4, 4].getD k.toNat 0)) rfl sl_22 el_3 hS (parts_cons rfl (parts_cons rfl parts0)) (by kernel_rfl) (by decide) (by decide) rfl rfl (fun k hk => by rcases k with _ | _ | k <;> first | rfl | (exfalso; omega)) (by omega)) ?_; clear hF; rintro v2 w ⟨hS, hv2⟩ a hF
  replace hS : Sat w0 w [.own v1 1 3 2 (ints (fun k => [6, 4].getD k.toNat 0)), .own v2 1 3 2 (ints (fun k => [4, 4].getD k.toNat 0))] := hS
  refine ls_val hF (.free rfl) rfl rfl (ex_any (w' := w) (r := .value (.agg #[v1, v2, .int .i64 10, .int .i64 0])) (by intro _ _ h; cases h) rfl (by obtain ⟨_, _, _, _, rfl, _⟩ := hv1; obtain ⟨_, _, _, _, rfl, _⟩ := hv2; kernel_rfl)) ?_; clear hF a; intro a hF
  refine ls_any hF (.free rfl) rfl rfl (ex_alloc (cs := [.slice none 0 0, .slice none 0 0, .int .i64 0, .int .i64 0]) rfl el_33 hS rfl) ?_; clear hF; rintro _ w ⟨g1, rfl, hS⟩ a hF
  replace hS : Sat w0 w [.own v1 1 3 2 (ints (fun k => [6, 4].getD k.toNat 0)), .own v2 1 3 2 (ints (fun k => [4, 4].getD k.toNat 0)), .blk g1 [.slice none 0 0, .slice none 0 0, .int .i64 0, .int .i64 0]] := hS
  refine ls_effx hF (.free rfl) rfl (st_blks 2 (ds := [v1, v2, .int .i64 10, .int .i64 0]) rfl st_33 hS rfl rfl rfl rfl (ones_cons hv1.one (ones_cons hv2.one (ones_cons rfl (ones_cons rfl ones_nil))))) ?_; clear hS; rintro w hS
  replace hS : Sat w0 w [.own v1 1 3 2 (ints (fun k => [6, 4].getD k.toNat 0)), .own v2 1 3 2 (ints (fun k => [4, 4].getD k.toNat 0)), .blk g1 [v1, v2, .int .i64 10, .int .i64 0]] := hS
  refine ls_nil ?_
  refine then_normal ?_
  refine cw_seq ?_
  refine wp_region_lit ?_
  refine ls_val hF (.free rfl) rfl rfl (ex_loads_blk 2 rfl st_33 rfl hS rfl rfl) ?_; clear hF a; intro a hF
  refine ls_any hF (.free rfl) rfl rfl (ex_lit (n := 2) (len := 2) (pv := [(0, .int .i64 1), (1, .int .i64 0)]) (cs := [.int .i64 1, .int .i64 0]) (c := ints (fun k => [1, 0].getD k.toNat 0)) rfl sl_22 el_3 hS (parts_cons rfl (parts_cons rfl parts0)) (by kernel_rfl) (by decide) (by decide) rfl rfl (fun k hk => by rcases k with _ | _ | k <;> first | rfl | (exfalso; omega)) (by omega)) ?_; clear hF; rintro v3 w ⟨hS, hv3⟩ a hF
  replace hS : Sat w0 w [.own v1 1 3 2 (ints (fun k => [6, 4].getD k.toNat 0)), .own v2 1 3 2 (ints (fun k => [4, 4].getD k.toNat 0)), .blk g1 [v1, v2, .int .i64 10, .int .i64 0], .own v3 1 3 2 (ints (fun k => [1, 0].getD k.toNat 0))] := hS
  refine ls_val hF (.free rfl) rfl rfl (ex_any (w' := w) (r := .value (.agg #[v3, .int .i64 1])) (by intro _ _ h; cases h) rfl (by obtain ⟨_, _, _, _, rfl, _⟩ := hv3; kernel_rfl)) ?_; clear hF a; intro a hF
  refine ls_call hF (.free rfl) rfl rfl (ex_call0 rfl rfl cl_11 (args_cons rfl (args_cons rfl args0))) (c_bound0 w (⟨(hS.rowN 0 rfl), (hS.rowN 1 rfl), (litb _ (by decide)), (litb _ (by decide)), (by (try dsimp only); omega), (by (try dsimp only); omega)⟩ : PAt _ _ _ (⟨2, (fun k => [6, 4].getD k.toNat 0), 2, (fun k => [4, 4].getD k.toNat 0), 10, 0⟩ : Prob)) (⟨(hS.rowN 3 rfl), (litb _ (by decide))⟩ : IAt _ _ 2 (fun k => [1, 0].getD k.toNat 0))) ?_; clear hF; rintro _ w ⟨rfl, hS'⟩ a hF
  replace hS : Sat w0 w [.own v1 1 3 2 (ints (fun k => [6, 4].getD k.toNat 0)), .own v2 1 3 2 (ints (fun k => [4, 4].getD k.toNat 0)), .blk g1 [v1, v2, .int .i64 10, .int .i64 0], .own v3 1 3 2 (ints (fun k => [1, 0].getD k.toNat 0))] := hS.comp hS'; clear hS'
  refine ls_val hF (.free rfl) rfl rfl (ex_move rfl rfl) ?_; clear hF a; intro a hF
  refine ls_val hF (.free rfl) rfl rfl (ex_extract rfl rfl rfl) ?_; clear hF a; intro a hF
  refine ls_val hF (.free rfl) rfl rfl (ex_extract rfl rfl rfl) ?_; clear hF a; intro a hF
  refine ls_val hF (.free rfl) rfl rfl (ex_assign rfl rfl) ?_; clear hF a; intro a hF
  refine ls_val hF (.free rfl) rfl rfl (ex_assign rfl rfl) ?_; clear hF a; intro a hF
  refine ls_nil ?_
  refine then_normal ?_
  refine cw_seq ?_
  refine wp_region_lit ?_
  refine ls_val hF (.free rfl) rfl rfl (ex_move rfl rfl) ?_; clear hF a; intro a hF
  refine ls_val hF (.free rfl) rfl rfl (known_t (ex_eql rfl rfl rfl) (by omega)) ?_; clear hF a; intro a hF
  refine ls_val hF (.free rfl) rfl rfl (ex_move rfl rfl) ?_; clear hF a; intro a hF
  refine ls_val hF (.on rfl rfl rfl rfl rfl) rfl rfl (ex_move rfl rfl) ?_; clear hF a; intro a hF
  refine ls_val hF (.on rfl rfl rfl rfl rfl) rfl rfl (known_t (ex_eql rfl rfl rfl) (by omega)) ?_; clear hF a; intro a hF
  refine ls_val hF (.free rfl) rfl rfl (ex_pick_t rfl rfl rfl) ?_; clear hF a; intro a hF
  refine ls_val hF (.free rfl) rfl rfl (ex_move rfl rfl) ?_; clear hF a; intro a hF
  refine ls_val hF (.on rfl rfl rfl rfl rfl) rfl rfl (ex_loads_blk 2 rfl st_33 rfl hS rfl rfl) ?_; clear hF a; intro a hF
  refine ls_any hF (.on rfl rfl rfl rfl rfl) rfl rfl (ex_lit (n := 2) (len := 2) (pv := [(0, .int .i64 1), (1, .int .i64 1)]) (cs := [.int .i64 1, .int .i64 1]) (c := ints (fun k => [1, 1].getD k.toNat 0)) rfl sl_22 el_3 hS (parts_cons rfl (parts_cons rfl parts0)) (by kernel_rfl) (by decide) (by decide) rfl rfl (fun k hk => by rcases k with _ | _ | k <;> first | rfl | (exfalso; omega)) (by omega)) ?_; clear hF; rintro v4 w ⟨hS, hv4⟩ a hF
  replace hS : Sat w0 w [.own v1 1 3 2 (ints (fun k => [6, 4].getD k.toNat 0)), .own v2 1 3 2 (ints (fun k => [4, 4].getD k.toNat 0)), .blk g1 [v1, v2, .int .i64 10, .int .i64 0], .own v3 1 3 2 (ints (fun k => [1, 0].getD k.toNat 0)), .own v4 1 3 2 (ints (fun k => [1, 1].getD k.toNat 0))] := hS
  refine ls_val hF (.on rfl rfl rfl rfl rfl) rfl rfl (ex_any (w' := w) (r := .value (.agg #[v4, .int .i64 1])) (by intro _ _ h; cases h) rfl (by obtain ⟨_, _, _, _, rfl, _⟩ := hv4; kernel_rfl)) ?_; clear hF a; intro a hF
  refine ls_call hF (.on rfl rfl rfl rfl rfl) rfl rfl (ex_call0 rfl rfl cl_13 (args_cons rfl (args_cons rfl args0))) (c_check1 w (⟨(hS.rowN 0 rfl), (hS.rowN 1 rfl), (litb _ (by decide)), (litb _ (by decide)), (by (try dsimp only); omega), (by (try dsimp only); omega)⟩ : PAt _ _ _ (⟨2, (fun k => [6, 4].getD k.toNat 0), 2, (fun k => [4, 4].getD k.toNat 0), 10, 0⟩ : Prob)) (⟨(hS.rowN 4 rfl), (litb _ (by decide))⟩ : IAt _ _ 2 (fun k => [1, 1].getD k.toNat 0))) ?_; clear hF; rintro _ w ⟨rfl, hS'⟩ a hF
  replace hS : Sat w0 w [.own v1 1 3 2 (ints (fun k => [6, 4].getD k.toNat 0)), .own v2 1 3 2 (ints (fun k => [4, 4].getD k.toNat 0)), .blk g1 [v1, v2, .int .i64 10, .int .i64 0], .own v3 1 3 2 (ints (fun k => [1, 0].getD k.toNat 0)), .own v4 1 3 2 (ints (fun k => [1, 1].getD k.toNat 0))] := hS.comp hS'; clear hS'
  refine ls_val hF (.on rfl rfl rfl rfl rfl) rfl rfl (known_t (ex_eql rfl rfl rfl) (by omega)) ?_; clear hF a; intro a hF
  refine ls_val hF (.free rfl) rfl rfl (ex_pick_t rfl rfl rfl) ?_; clear hF a; intro a hF
  refine ls_val hF (.free rfl) rfl rfl (ex_assign rfl rfl) ?_; clear hF a; intro a hF
  refine ls_nil ?_
  refine then_normal ?_
  refine wp_ret ?_
  refine (fin1 hF rfl rfl ⟨_, rfl, ?_⟩)
  exact ⟨rfl, hS.sub (.cons _ (.cons _ (.cons _ (.cons _ (.cons _ .slnil)))))⟩

set_option maxRecDepth 20000 in
theorem law_check {vL vD vy : Value} {p : Prob} {n q : Int} {y : Int → Int} (w0 : World) (h : PAt w0 vL vD p) (hY : IAt w0 vy n y) (hq : -9223372036854775808 ≤ q ∧ q ≤ 9223372036854775807) :
    Calls Try.prog 3 [.agg #[vL, vD, .int .i64 p.stock, .int .i64 p.kerf], .agg #[vy, .int .i64 q]].toArray w0 fun e w => ∃ v, e = .returned v ∧ v = .bool true ∧ Sat w0 w [] := by
  refine enterS (vs := [.agg #[vL, vD, .int .i64 p.stock, .int .i64 p.kerf], .agg #[vy, .int .i64 q]]) Try.func3 rfl Try.ntmps3 rfl ?_
  intro a w hS hF
  refine cw_seq ?_
  refine wp_region_lit ?_
  refine ls_any hF (.free rfl) rfl rfl (ex_box (cs := [vL, vD, .int .i64 p.stock, .int .i64 p.kerf]) rfl hS rfl rfl) ?_; clear hF; rintro _ w ⟨g1, rfl, hS⟩ a hF
  replace hS : Sat w0 w [.blk g1 [vL, vD, .int .i64 p.stock, .int .i64 p.kerf]] := hS
  refine ls_any hF (.free rfl) rfl rfl (ex_box (cs := [vy, .int .i64 q]) rfl hS rfl rfl) ?_; clear hF; rintro _ w ⟨g2, rfl, hS⟩ a hF
  replace hS : Sat w0 w [.blk g1 [vL, vD, .int .i64 p.stock, .int .i64 p.kerf], .blk g2 [vy, .int .i64 q]] := hS
  refine ls_val hF (.free rfl) rfl rfl (ex_assign rfl rfl) ?_; clear hF a; intro a hF
  refine ls_nil ?_
  refine then_normal ?_
  refine cw_seq ?_
  refine cw_seq ?_
  refine wp_region_lit ?_
  refine ls_call hF (.free rfl) rfl rfl (ex_call0 rfl rfl cl_8 args0) (c_awake w) ?_; clear hF; rintro _ w ⟨rfl, hS'⟩ a hF
  replace hS : Sat w0 w [.blk g1 [vL, vD, .int .i64 p.stock, .int .i64 p.kerf], .blk g2 [vy, .int .i64 q]] := hS.comp hS'; clear hS'
  refine ls_val hF (.free rfl) rfl rfl (ex_not_t rfl rfl) ?_; clear hF a; intro a hF
  refine ls_val hF (.free rfl) rfl rfl (ex_move rfl rfl) ?_; clear hF a; intro a hF
  refine ls_val hF (.on rfl rfl rfl rfl rfl) rfl rfl (ex_loads_blk 0 rfl st_24 rfl hS rfl rfl) ?_; clear hF a; intro a hF
  refine ls_call hF (.on rfl rfl rfl rfl rfl) rfl rfl (ex_call0 rfl rfl cl_9 (args_cons rfl args0)) (c_few28 (p := p) w (h.below hS.below)) ?_; clear hF; rintro _ w ⟨rfl, hS'⟩ a hF
  replace hS : Sat w0 w [.blk g1 [vL, vD, .int .i64 p.stock, .int .i64 p.kerf], .blk g2 [vy, .int .i64 q]] := hS.comp hS'; clear hS'
  refine ls_val hF (.on rfl rfl rfl rfl rfl) rfl rfl (ex_not rfl rfl) ?_; clear hF a; intro a hF
  refine ls_val hF (.free rfl) rfl rfl (ex_pick_f rfl rfl rfl) ?_; clear hF a; intro a hF
  refine ls_val hF (.free rfl) rfl rfl (ex_move rfl rfl) ?_; clear hF a; intro a hF
  refine by_slot hF (d := 16) rfl ?_ ?_ <;> clear hF <;> intro hc hF
  ·
   refine ls_off hF (.on rfl rfl rfl rfl rfl) rfl rfl ?_; clear hF a; intro a hF
   refine ls_off hF (.on rfl rfl rfl rfl rfl) rfl rfl ?_; clear hF a; intro a hF
   refine ls_off hF (.on rfl rfl rfl rfl rfl) rfl rfl ?_; clear hF a; intro a hF
   refine ls_val hF (.free rfl) rfl rfl (ex_pick_t rfl rfl rfl) ?_; clear hF a; intro a hF
   refine ls_nil ?_
   refine then_normal ?_
   refine cw_t hF rfl ?_
   refine cw_seq ?_
   refine wp_region_lit ?_
   refine ls_call hF (.free rfl) rfl rfl (ex_call0 rfl rfl cl_8 args0) (c_awake w) ?_; clear hF; rintro _ w ⟨rfl, hS'⟩ a hF
   replace hS : Sat w0 w [.blk g1 [vL, vD, .int .i64 p.stock, .int .i64 p.kerf], .blk g2 [vy, .int .i64 q]] := hS.comp hS'; clear hS'
   refine ls_val hF (.free rfl) rfl rfl (ex_assign rfl rfl) ?_; clear hF a; intro a hF
   refine ls_nil ?_
   refine then_normal ?_
   refine wp_ret ?_
   refine then_ret ((fin1 hF rfl rfl ⟨_, rfl, ?_⟩))
   exact ⟨rfl, hS.sub (.cons _ (.cons _ .slnil))⟩
  ·
   refine ls_val hF (.on rfl rfl rfl rfl rfl) rfl rfl (ex_loads_blk 1 rfl st_26 rfl hS rfl rfl) ?_; clear hF a; intro a hF
   refine ls_call hF (.on rfl rfl rfl rfl rfl) rfl rfl (ex_call0 rfl rfl cl_10 (args_cons rfl args0)) (c_few32 w (q := q) (hY.below hS.below)) ?_; clear hF; rintro _ w ⟨rfl, hS'⟩ a hF
   replace hS : Sat w0 w [.blk g1 [vL, vD, .int .i64 p.stock, .int .i64 p.kerf], .blk g2 [vy, .int .i64 q]] := hS.comp hS'; clear hS'
   refine ls_val hF (.on rfl rfl rfl rfl rfl) rfl rfl (ex_not rfl rfl) ?_; clear hF a; intro a hF
   refine ls_val hF (.free rfl) rfl rfl (ex_pick_f rfl rfl rfl) ?_; clear hF a; intro a hF
   refine ls_nil ?_
   refine then_normal ?_
   refine cw_if hF rfl (fun hc => ?_) (fun hc => ?_)
   ·
    refine cw_seq ?_
    refine wp_region_lit ?_
    refine ls_call hF (.free rfl) rfl rfl (ex_call0 rfl rfl cl_8 args0) (c_awake w) ?_; clear hF; rintro _ w ⟨rfl, hS'⟩ a hF
    replace hS : Sat w0 w [.blk g1 [vL, vD, .int .i64 p.stock, .int .i64 p.kerf], .blk g2 [vy, .int .i64 q]] := hS.comp hS'; clear hS'
    refine ls_val hF (.free rfl) rfl rfl (ex_assign rfl rfl) ?_; clear hF a; intro a hF
    refine ls_nil ?_
    refine then_normal ?_
    refine wp_ret ?_
    refine then_ret ((fin1 hF rfl rfl ⟨_, rfl, ?_⟩))
    exact ⟨rfl, hS.sub (.cons _ (.cons _ .slnil))⟩
   ·
    refine wp_skip ?_
    refine then_normal ?_
    refine cw_seq ?_
    refine wp_region_lit ?_
    refine ls_val hF (.free rfl) rfl rfl (ex_loads_blk 0 rfl st_24 rfl hS rfl rfl) ?_; clear hF a; intro a hF
    refine ls_val hF (.free rfl) rfl rfl (ex_loads_blk 1 rfl st_26 rfl hS rfl rfl) ?_; clear hF a; intro a hF
    refine ls_call hF (.free rfl) rfl rfl (ex_call0 rfl rfl cl_11 (args_cons rfl (args_cons rfl args0))) (c_bound (p := p) w (h.below hS.below) (hY.below hS.below) (by omega)) ?_; clear hF; rintro _ w ⟨rfl, hS'⟩ a hF
    replace hS : Sat w0 w [.blk g1 [vL, vD, .int .i64 p.stock, .int .i64 p.kerf], .blk g2 [vy, .int .i64 q]] := hS.comp hS'; clear hS'
    refine ls_val hF (.free rfl) rfl rfl (ex_move rfl rfl) ?_; clear hF a; intro a hF
    refine ls_val hF (.free rfl) rfl rfl (ex_extract rfl rfl rfl) ?_; clear hF a; intro a hF
    refine ls_val hF (.free rfl) rfl rfl (ex_extract rfl rfl rfl) ?_; clear hF a; intro a hF
    refine ls_val hF (.free rfl) rfl rfl (ex_assign rfl rfl) ?_; clear hF a; intro a hF
    refine ls_val hF (.free rfl) rfl rfl (ex_assign rfl rfl) ?_; clear hF a; intro a hF
    refine ls_nil ?_
    refine then_normal ?_
    refine cw_seq ?_
    refine wp_region_lit ?_
    refine ls_val hF (.free rfl) rfl rfl (ex_loads_blk 0 rfl st_24 rfl hS rfl rfl) ?_; clear hF a; intro a hF
    refine ls_val hF (.free rfl) rfl rfl (ex_loads_blk 1 rfl st_26 rfl hS rfl rfl) ?_; clear hF a; intro a hF
    refine ls_call hF (.free rfl) rfl rfl (ex_call0 rfl rfl cl_12 (args_cons rfl (args_cons rfl args0))) (c_rbound (p := p) w (h.below hS.below) (hY.below hS.below) (by omega)) ?_; clear hF; rintro _ w ⟨rfl, hS'⟩ a hF
    replace hS : Sat w0 w [.blk g1 [vL, vD, .int .i64 p.stock, .int .i64 p.kerf], .blk g2 [vy, .int .i64 q]] := hS.comp hS'; clear hS'
    refine ls_val hF (.free rfl) rfl rfl (ex_move rfl rfl) ?_; clear hF a; intro a hF
    refine ls_val hF (.free rfl) rfl rfl (ex_extract rfl rfl rfl) ?_; clear hF a; intro a hF
    refine ls_val hF (.free rfl) rfl rfl (ex_extract rfl rfl rfl) ?_; clear hF a; intro a hF
    refine ls_val hF (.free rfl) rfl rfl (ex_assign rfl rfl) ?_; clear hF a; intro a hF
    refine ls_val hF (.free rfl) rfl rfl (ex_assign rfl rfl) ?_; clear hF a; intro a hF
    refine ls_nil ?_
    refine then_normal ?_
    refine cw_seq ?_
    refine dr_sat (m0 := [.blk g1 [vL, vD, .int .i64 p.stock, .int .i64 p.kerf], .blk g2 [vy, .int .i64 q]]) 1000 mx_ hS (.cons_cons _ (.cons_cons _ .slnil)) rfl ?_; clear hS; intro w hS hcl hB
    refine dr_load hF hcl hB 0 rfl (.free rfl) rfl rfl (by kernel_rfl) rfl (by kernel_rfl) (fun w hS => (ex_loads_blk 0 rfl st_24 rfl hS rfl rfl)) ?_; clear hF a hcl hB; intro a hF hcl hB
    refine dr_load hF hcl hB 1 rfl (.free rfl) rfl rfl (by kernel_rfl) rfl (by kernel_rfl) (fun w hS => (ex_loads_blk 1 rfl st_26 rfl hS rfl rfl)) ?_; clear hF a hcl hB; intro a hF hcl hB
    refine dr_load hF hcl hB 3 rfl (.free rfl) rfl rfl (by kernel_rfl) rfl (by kernel_rfl) (fun w hS => (ex_loads_blk 0 rfl st_24 rfl hS rfl rfl)) ?_; clear hF a hcl hB; intro a hF hcl hB
    refine dr_load hF hcl hB 4 rfl (.free rfl) rfl rfl (by kernel_rfl) rfl (by kernel_rfl) (fun w hS => (ex_loads_blk 1 rfl st_26 rfl hS rfl rfl)) ?_; clear hF a hcl hB; intro a hF hcl hB
    refine dr_call hF hcl 2 rfl (.free rfl) rfl rfl (by kernel_rfl) (ex_call0 rfl rfl cl_13 (args_cons rfl (args_cons rfl args0))) (c_check (p := p) w (h.below hS.below) (hY.below hS.below) (by omega)) ?_; clear hF hB; rintro _ w ⟨rfl, hS'⟩ a hF hcl
    replace hS : Sat w0 w [.blk g1 [vL, vD, .int .i64 p.stock, .int .i64 p.kerf], .blk g2 [vy, .int .i64 q]] := hS.comp hS'; clear hS'
    refine ⟨(fun _ => hS.sub (.cons_cons _ (.cons_cons _ .slnil))), fun hB => ?_⟩
    refine dr_call hF hcl 5 rfl (.free rfl) rfl rfl (by kernel_rfl) (ex_call0 rfl rfl cl_14 (args_cons rfl (args_cons rfl args0))) (c_rcheck (p := p) w (h.below hS.below) (hY.below hS.below) (by omega)) ?_; clear hF hB; rintro _ w ⟨rfl, hS'⟩ a hF hcl
    replace hS : Sat w0 w [.blk g1 [vL, vD, .int .i64 p.stock, .int .i64 p.kerf], .blk g2 [vy, .int .i64 q]] := hS.comp hS'; clear hS'
    refine ⟨(fun _ => hS.sub (.cons_cons _ (.cons_cons _ .slnil))), fun hB => ?_⟩
    refine dr_val hF hcl hB 6 rfl (.free rfl) rfl rfl (by kernel_rfl) rfl (fun w => (known_t (ex_eql rfl rfl rfl) (by omega))) ?_; clear hF a hcl hB; intro a hF hcl hB
    refine dr_val hF hcl hB 7 rfl (.free rfl) rfl rfl (by kernel_rfl) rfl (fun w => (ex_move rfl rfl)) ?_; clear hF a hcl hB; intro a hF hcl hB
    refine dr_val hF hcl hB 8 rfl (.on rfl rfl rfl rfl rfl) rfl rfl (by kernel_rfl) rfl (fun w => (ex_move rfl rfl)) ?_; clear hF a hcl hB; intro a hF hcl hB
    refine dr_val hF hcl hB 9 rfl (.on rfl rfl rfl rfl rfl) rfl rfl (by kernel_rfl) rfl (fun w => (ex_move rfl rfl)) ?_; clear hF a hcl hB; intro a hF hcl hB
    refine dr_val hF hcl hB 10 rfl (.on rfl rfl rfl rfl rfl) rfl rfl (by kernel_rfl) rfl (fun w => (known_t (ex_eql rfl rfl rfl) (by omega))) ?_; clear hF a hcl hB; intro a hF hcl hB
    refine dr_val hF hcl hB 11 rfl (.free rfl) rfl rfl (by kernel_rfl) rfl (fun w => (ex_pick_t rfl rfl rfl)) ?_; clear hF a hcl hB; intro a hF hcl hB
    refine dr_val hF hcl hB 12 rfl (.free rfl) rfl rfl (by kernel_rfl) rfl (fun w => (ex_move rfl rfl)) ?_; clear hF a hcl hB; intro a hF hcl hB
    refine dr_val hF hcl hB 13 rfl (.on rfl rfl rfl rfl rfl) rfl rfl (by kernel_rfl) rfl (fun w => (ex_move rfl rfl)) ?_; clear hF a hcl hB; intro a hF hcl hB
    refine dr_val hF hcl hB 14 rfl (.on rfl rfl rfl rfl rfl) rfl rfl (by kernel_rfl) rfl (fun w => (ex_move rfl rfl)) ?_; clear hF a hcl hB; intro a hF hcl hB
    refine dr_val hF hcl hB 15 rfl (.on rfl rfl rfl rfl rfl) rfl rfl (by kernel_rfl) rfl (fun w => (known_t (ex_eql rfl rfl rfl) (by omega))) ?_; clear hF a hcl hB; intro a hF hcl hB
    refine dr_val hF hcl hB 16 rfl (.free rfl) rfl rfl (by kernel_rfl) rfl (fun w => (ex_pick_t rfl rfl rfl)) ?_; clear hF a hcl hB; intro a hF hcl hB
    refine dr_val hF hcl hB 17 rfl (.free rfl) rfl rfl (by kernel_rfl) rfl (fun w => (ex_assign rfl rfl)) ?_; clear hF a hcl hB; intro a hF hcl hB
    refine dr_done (by kernel_rfl) ?_; clear hcl hB
    refine then_normal ?_
    refine wp_ret ?_
    refine (fin1 hF rfl rfl ⟨_, rfl, ?_⟩)
    exact ⟨rfl, hS.sub (.cons _ (.cons _ .slnil))⟩

end Go.Proofs.Ytigefiejddmidaa
