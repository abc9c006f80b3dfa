/- The walk of awake, of the statements. -/
import Derived.Test.YtakgjpmhbfieeaaW10
import Derived.Test.YtakgjpmhbfieeaaFw
namespace Go.Proofs.Ytakgjpmhbfieeaa
open Go Go.RowKit Go.Proofs.Gw
set_option linter.unusedVariables false

theorem cl_15 : calledT Try.prog 15 = true := by kernel_rfl
theorem cl_18 : calledT Try.prog 18 = true := by kernel_rfl
theorem el_34 : elemT Try.prog 34 = some (.agg #[.slice none 0 0, .slice none 0 0, .slice none 0 0], 3, 72) := by kernel_rfl
set_option maxRecDepth 20000 in
theorem c_awake  (w0 : World) :
    Calls Try.prog 12 [].toArray w0 fun e w => ∃ v, e = .returned v ∧ v = .bool true ∧ Sat w0 w [] := by
  refine enterS (vs := []) Try.func12 rfl Try.ntmps12 rfl ?_
  intro a w hS hF
  refine cw_seq ?_
  refine wp_region_lit ?_
  refine ls_val hF (.free rfl) rfl rfl (ex_assign rfl rfl) ?_; clear hF a; intro a hF
  refine ls_nil ?_
  refine then_normal ?_
  refine cw_seq ?_
  refine wp_region_lit ?_
  refine ls_any hF (.free rfl) rfl rfl (ex_lit (n := 2) (len := 2) (pv := [(0, .int .i64 1), (1, .int .i64 1)]) (cs := [.int .i64 1, .int .i64 1]) (c := ints (fun k => [1, 1].getD k.toNat 0)) rfl sl_22 el_3 hS (parts_cons rfl (parts_cons rfl parts0)) (by kernel_rfl) (by decide) (by decide) rfl rfl (fun k hk => by rcases k with _ | _ | k <;> first | rfl | (exfalso; omega)) (by omega)) ?_; clear hF; rintro v1 w ⟨hS, hv1⟩ a hF
  replace hS : Sat w0 w [.own v1 1 3 2 (ints (fun k => [1, 1].getD k.toNat 0))] := hS
  refine ls_any hF (.free rfl) rfl rfl (ex_lit (n := 2) (len := 2) (pv := [(0, .int .i64 2), (1, .int .i64 1)]) (cs := [.int .i64 2, .int .i64 1]) (c := ints (fun k => [2, 1].getD k.toNat 0)) rfl sl_22 el_3 hS (parts_cons rfl (parts_cons rfl parts0)) (by kernel_rfl) (by decide) (by decide) rfl rfl (fun k hk => by rcases k with _ | _ | k <;> first | rfl | (exfalso; omega)) (by omega)) ?_; clear hF; rintro v2 w ⟨hS, hv2⟩ a hF
  replace hS : Sat w0 w [.own v1 1 3 2 (ints (fun k => [1, 1].getD k.toNat 0)), .own v2 1 3 2 (ints (fun k => [2, 1].getD k.toNat 0))] := hS
  refine ls_any hF (.free rfl) rfl rfl (ex_lit (n := 2) (len := 2) (pv := [(0, .int .i64 1), (1, .int .i64 3)]) (cs := [.int .i64 1, .int .i64 3]) (c := ints (fun k => [1, 3].getD k.toNat 0)) rfl sl_22 el_3 hS (parts_cons rfl (parts_cons rfl parts0)) (by kernel_rfl) (by decide) (by decide) rfl rfl (fun k hk => by rcases k with _ | _ | k <;> first | rfl | (exfalso; omega)) (by omega)) ?_; clear hF; rintro v3 w ⟨hS, hv3⟩ a hF
  replace hS : Sat w0 w [.own v1 1 3 2 (ints (fun k => [1, 1].getD k.toNat 0)), .own v2 1 3 2 (ints (fun k => [2, 1].getD k.toNat 0)), .own v3 1 3 2 (ints (fun k => [1, 3].getD k.toNat 0))] := hS
  refine ls_any hF (.free rfl) rfl rfl (ex_lit (n := 2) (len := 2) (pv := [(0, v2), (1, v3)]) (cs := [v2, v3]) (c := fun k => ([(v2 : Value), (v3 : Value)]).getD k.toNat undef) rfl sl_23 el_22 hS (parts_cons rfl (parts_cons rfl parts0)) (by obtain ⟨_, _, _, _, rfl, _⟩ := hv2; obtain ⟨_, _, _, _, rfl, _⟩ := hv3; kernel_rfl) (by decide) (by decide) rfl rfl (fun k hk => by rcases k with _ | _ | k <;> first | rfl | (exfalso; omega)) (by omega)) ?_; clear hF; rintro v4 w ⟨hS, hv4⟩ a hF
  replace hS : Sat w0 w [.own v1 1 3 2 (ints (fun k => [1, 1].getD k.toNat 0)), .own v2 1 3 2 (ints (fun k => [2, 1].getD k.toNat 0)), .own v3 1 3 2 (ints (fun k => [1, 3].getD k.toNat 0)), .own v4 1 22 2 (fun k => ([(v2 : Value), (v3 : Value)]).getD k.toNat undef)] := hS
  refine ls_any hF (.free rfl) rfl rfl (ex_lit (n := 2) (len := 2) (pv := [(0, .int .i64 3), (1, .int .i64 4)]) (cs := [.int .i64 3, .int .i64 4]) (c := ints (fun k => [3, 4].getD k.toNat 0)) rfl sl_22 el_3 hS (parts_cons rfl (parts_cons rfl parts0)) (by kernel_rfl) (by decide) (by decide) rfl rfl (fun k hk => by rcases k with _ | _ | k <;> first | rfl | (exfalso; omega)) (by omega)) ?_; clear hF; rintro v5 w ⟨hS, hv5⟩ a hF
  replace hS : Sat w0 w [.own v1 1 3 2 (ints (fun k => [1, 1].getD k.toNat 0)), .own v2 1 3 2 (ints (fun k => [2, 1].getD k.toNat 0)), .own v3 1 3 2 (ints (fun k => [1, 3].getD k.toNat 0)), .own v4 1 22 2 (fun k => ([(v2 : Value), (v3 : Value)]).getD k.toNat undef), .own v5 1 3 2 (ints (fun k => [3, 4].getD k.toNat 0))] := hS
  refine ls_val hF (.free rfl) rfl rfl (ex_any (w' := w) (r := .value (.agg #[v1, v4, v5])) (by intro _ _ h; cases h) rfl (by obtain ⟨_, _, _, _, rfl, _⟩ := hv1; obtain ⟨_, _, _, _, rfl, _⟩ := hv4; obtain ⟨_, _, _, _, rfl, _⟩ := hv5; kernel_rfl)) ?_; clear hF a; intro a hF
  refine ls_any hF (.free rfl) rfl rfl (ex_alloc (cs := [.slice none 0 0, .slice none 0 0, .slice none 0 0]) rfl el_34 hS rfl) ?_; clear hF; rintro _ w ⟨g1, rfl, hS⟩ a hF
  replace hS : Sat w0 w [.own v1 1 3 2 (ints (fun k => [1, 1].getD k.toNat 0)), .own v2 1 3 2 (ints (fun k => [2, 1].getD k.toNat 0)), .own v3 1 3 2 (ints (fun k => [1, 3].getD k.toNat 0)), .own v4 1 22 2 (fun k => ([(v2 : Value), (v3 : Value)]).getD k.toNat undef), .own v5 1 3 2 (ints (fun k => [3, 4].getD k.toNat 0)), .blk g1 [.slice none 0 0, .slice none 0 0, .slice none 0 0]] := hS
  refine ls_effx hF (.free rfl) rfl (st_blks 5 (ds := [v1, v4, v5]) rfl st_34 hS rfl rfl rfl rfl (ones_cons hv1.one (ones_cons hv4.one (ones_cons hv5.one ones_nil)))) ?_; clear hS; rintro w hS
  replace hS : Sat w0 w [.own v1 1 3 2 (ints (fun k => [1, 1].getD k.toNat 0)), .own v2 1 3 2 (ints (fun k => [2, 1].getD k.toNat 0)), .own v3 1 3 2 (ints (fun k => [1, 3].getD k.toNat 0)), .own v4 1 22 2 (fun k => ([(v2 : Value), (v3 : Value)]).getD k.toNat undef), .own v5 1 3 2 (ints (fun k => [3, 4].getD k.toNat 0)), .blk g1 [v1, v4, v5]] := hS
  refine ls_nil ?_
  refine then_normal ?_
  refine cw_seq ?_
  refine wp_region_lit ?_
  refine ls_val hF (.free rfl) rfl rfl (ex_loads_blk 5 rfl st_34 rfl hS rfl rfl) ?_; clear hF a; intro a hF
  refine ls_call hF (.free rfl) rfl rfl (ex_call0 rfl rfl cl_15 (args_cons rfl args0)) (c_solve (p := pEx) w (⟨(hS.rowN 0 rfl), matEx (hS.rowN 3 rfl) (hS.rowN 1 rfl) (hS.rowN 2 rfl) (Ent.holds.roomy (hS.holds _ (List.mem_of_getElem? (i := 1) rfl))) (Ent.holds.roomy (hS.holds _ (List.mem_of_getElem? (i := 2) rfl))), (hS.rowN 4 rfl)⟩ : LAt _ v1 v4 v5 (pair2 v2 v3) pEx)) ?_; clear hF; rintro _ w ⟨vX, vY, s, e, rfl, hsol, hvX, hvY, hS'⟩ a hF
  replace hS : Sat w0 w [.own v1 1 3 2 (ints (fun k => [1, 1].getD k.toNat 0)), .own v2 1 3 2 (ints (fun k => [2, 1].getD k.toNat 0)), .own v3 1 3 2 (ints (fun k => [1, 3].getD k.toNat 0)), .own v4 1 22 2 (fun k => ([(v2 : Value), (v3 : Value)]).getD k.toNat undef), .own v5 1 3 2 (ints (fun k => [3, 4].getD k.toNat 0)), .blk g1 [v1, v4, v5], .own vX 1 3 s.n (ints s.X), .own vY 1 3 s.m (ints s.Y)] := hS.comp hS'; clear hS'
  obtain ⟨e0, e1, e2, e3, e4, e5, e6, e7, e8, e9, eA, eB, eC⟩ := solEx hsol
  refine ls_val hF (.free rfl) rfl rfl (ex_move rfl rfl) ?_; clear hF a; intro a hF
  refine ls_val hF (.free rfl) rfl rfl (ex_extract rfl rfl rfl) ?_; clear hF a; intro a hF
  refine ls_val hF (.free rfl) rfl rfl (ex_extract rfl rfl rfl) ?_; clear hF a; intro a hF
  refine ls_any hF (.free rfl) rfl rfl (ex_alloc (cs := [.slice none 0 0, .slice none 0 0, .int .i64 0, .int .i64 0]) rfl el_30 hS rfl) ?_; clear hF; rintro _ w ⟨g2, rfl, hS⟩ a hF
  replace hS : Sat w0 w [.own v1 1 3 2 (ints (fun k => [1, 1].getD k.toNat 0)), .own v2 1 3 2 (ints (fun k => [2, 1].getD k.toNat 0)), .own v3 1 3 2 (ints (fun k => [1, 3].getD k.toNat 0)), .own v4 1 22 2 (fun k => ([(v2 : Value), (v3 : Value)]).getD k.toNat undef), .own v5 1 3 2 (ints (fun k => [3, 4].getD k.toNat 0)), .blk g1 [v1, v4, v5], .own vX 1 3 s.n (ints s.X), .own vY 1 3 s.m (ints s.Y), .blk g2 [.slice none 0 0, .slice none 0 0, .int .i64 0, .int .i64 0]] := hS
  refine ls_effx hF (.free rfl) rfl (st_blks 8 (ds := [vX, vY, .int .i64 s.val, .int .i64 s.den]) rfl st_30 hS rfl rfl rfl rfl (ones_cons hvX.one (ones_cons hvY.one (ones_cons rfl (ones_cons rfl ones_nil))))) ?_; clear hS; rintro w hS
  replace hS : Sat w0 w [.own v1 1 3 2 (ints (fun k => [1, 1].getD k.toNat 0)), .own v2 1 3 2 (ints (fun k => [2, 1].getD k.toNat 0)), .own v3 1 3 2 (ints (fun k => [1, 3].getD k.toNat 0)), .own v4 1 22 2 (fun k => ([(v2 : Value), (v3 : Value)]).getD k.toNat undef), .own v5 1 3 2 (ints (fun k => [3, 4].getD k.toNat 0)), .blk g1 [v1, v4, v5], .own vX 1 3 s.n (ints s.X), .own vY 1 3 s.m (ints s.Y), .blk g2 [vX, vY, .int .i64 s.val, .int .i64 s.den]] := hS
  refine ls_val hF (.free rfl) rfl rfl (ex_assign rfl rfl) ?_; clear hF a; intro a hF
  refine ls_nil ?_
  refine then_normal ?_
  refine cw_seq ?_
  refine dr_sat (m0 := [.own v1 1 3 2 (ints (fun k => [1, 1].getD k.toNat 0)), .own v2 1 3 2 (ints (fun k => [2, 1].getD k.toNat 0)), .own v3 1 3 2 (ints (fun k => [1, 3].getD k.toNat 0)), .own v4 1 22 2 (fun k => ([(v2 : Value), (v3 : Value)]).getD k.toNat undef), .own v5 1 3 2 (ints (fun k => [3, 4].getD k.toNat 0)), .blk g1 [v1, v4, v5], .own vX 1 3 s.n (ints s.X), .own vY 1 3 s.m (ints s.Y), .blk g2 [vX, vY, .int .i64 s.val, .int .i64 s.den]]) (m1 := [.own v1 1 3 2 (ints (fun k => [1, 1].getD k.toNat 0)), .own v2 1 3 2 (ints (fun k => [2, 1].getD k.toNat 0)), .own v3 1 3 2 (ints (fun k => [1, 3].getD k.toNat 0)), .own v4 1 22 2 (fun k => ([(v2 : Value), (v3 : Value)]).getD k.toNat undef), .own v5 1 3 2 (ints (fun k => [3, 4].getD k.toNat 0)), .blk g1 [v1, v4, v5], .own vX 1 3 s.n (ints s.X), .own vY 1 3 s.m (ints s.Y), .blk g2 [vX, vY, .int .i64 s.val, .int .i64 s.den]]) 1000 mx_ hS (.cons_cons _ (.cons_cons _ (.cons_cons _ (.cons_cons _ (.cons_cons _ (.cons_cons _ (.cons_cons _ (.cons_cons _ (.cons_cons _ .slnil))))))))) (.cons_cons _ (.cons_cons _ (.cons_cons _ (.cons_cons _ (.cons_cons _ (.cons_cons _ (.cons_cons _ (.cons_cons _ (.cons_cons _ .slnil))))))))) rfl ?_; clear hS; intro w hS hcl hB
  refine dr_val hF hcl hB 0 rfl (.free rfl) rfl rfl (by kernel_rfl) rfl (fun w => (ex_move rfl rfl)) ?_; clear hF a hcl hB; intro a hF hcl hB
  refine dr_val hF hcl hB 1 rfl (.free rfl) rfl rfl (by kernel_rfl) rfl (fun w => (ex_eql rfl rfl rfl)) ?_; clear hF a hcl hB; intro a hF hcl hB
  refine dr_val hF hcl hB 2 rfl (.free rfl) rfl rfl (by kernel_rfl) rfl (fun w => (ex_move rfl rfl)) ?_; clear hF a hcl hB; intro a hF hcl hB
  refine by_slot hF (d := 17) rfl ?_ ?_ <;> clear hF <;> intro hc hF
  ·
   refine dr_val hF hcl hB 3 rfl (.on rfl rfl rfl rfl rfl) rfl rfl (by kernel_rfl) rfl (fun w => (ex_field (b := ⟨g2, 3, none⟩) rfl fd_30_3 rfl rfl)) ?_; clear hF a hcl hB; intro a hF hcl hB
   refine dr_loadA hF hcl hB 4 rfl (.on rfl rfl rfl rfl rfl) rfl rfl (by kernel_rfl) rfl (fun w hS => (ex_load_blk 8 rfl pl_3 rfl hS rfl rfl)) ?_; clear hF a hcl hB; intro a hF hcl hB
   refine dr_val hF hcl hB 5 rfl (.on rfl rfl rfl rfl rfl) rfl rfl (by kernel_rfl) rfl (fun w => (ex_gtr rfl rfl rfl)) ?_; clear hF a hcl hB; intro a hF hcl hB
   refine dr_val hF hcl hB 6 rfl (.free rfl) rfl rfl (by kernel_rfl) rfl (fun w => (ex_pick_t rfl rfl rfl)) ?_; clear hF a hcl hB; intro a hF hcl hB
   refine dr_val hF hcl hB 7 rfl (.free rfl) rfl rfl (by kernel_rfl) rfl (fun w => (ex_move rfl rfl)) ?_; clear hF a hcl hB; intro a hF hcl hB
   refine by_slot hF (d := 22) rfl ?_ ?_ <;> clear hF <;> intro hc hF
   ·
    refine dr_val hF hcl hB 8 rfl (.on rfl rfl rfl rfl rfl) rfl rfl (by kernel_rfl) rfl (fun w => (ex_field (b := ⟨g2, 2, none⟩) rfl fd_30_2 rfl rfl)) ?_; clear hF a hcl hB; intro a hF hcl hB
    refine dr_loadA hF hcl hB 9 rfl (.on rfl rfl rfl rfl rfl) rfl rfl (by kernel_rfl) rfl (fun w hS => (ex_load_blk 8 rfl pl_3 rfl hS rfl rfl)) ?_; clear hF a hcl hB; intro a hF hcl hB
    refine dr_val hF hcl hB 10 rfl (.on rfl rfl rfl rfl rfl) rfl rfl (by kernel_rfl) rfl (fun w => (ex_field (b := ⟨g2, 3, none⟩) rfl fd_30_3 rfl rfl)) ?_; clear hF a hcl hB; intro a hF hcl hB
    refine dr_loadA hF hcl hB 11 rfl (.on rfl rfl rfl rfl rfl) rfl rfl (by kernel_rfl) rfl (fun w hS => (ex_load_blk 8 rfl pl_3 rfl hS rfl rfl)) ?_; clear hF a hcl hB; intro a hF hcl hB
    refine dr_val hF hcl hB 12 rfl (.on rfl rfl rfl rfl rfl) rfl rfl (by kernel_rfl) rfl (fun w => (ex_mul (r := 2 * s.den) rfl rfl rfl (by omega) (by unfold I64; omega))) ?_; clear hF a hcl hB; intro a hF hcl hB
    refine dr_val hF hcl hB 13 rfl (.on rfl rfl rfl rfl rfl) rfl rfl (by kernel_rfl) rfl (fun w => (ex_eql rfl rfl rfl)) ?_; clear hF a hcl hB; intro a hF hcl hB
    refine dr_val hF hcl hB 14 rfl (.free rfl) rfl rfl (by kernel_rfl) rfl (fun w => (ex_pick_t rfl rfl rfl)) ?_; clear hF a hcl hB; intro a hF hcl hB
    refine dr_val hF hcl hB 15 rfl (.free rfl) rfl rfl (by kernel_rfl) rfl (fun w => (ex_move rfl rfl)) ?_; clear hF a hcl hB; intro a hF hcl hB
    refine by_slot hF (d := 30) rfl ?_ ?_ <;> clear hF <;> intro hc hF
    ·
     refine dr_val hF hcl hB 16 rfl (.on rfl rfl rfl rfl rfl) rfl rfl (by kernel_rfl) rfl (fun w => (ex_field (b := ⟨g2, 0, none⟩) rfl fd_30_0 rfl rfl)) ?_; clear hF a hcl hB; intro a hF hcl hB
     refine dr_loadA hF hcl hB 17 rfl (.on rfl rfl rfl rfl rfl) rfl rfl (by kernel_rfl) rfl (fun w hS => (ex_load_blk 8 rfl pl_22 rfl hS rfl rfl)) ?_; clear hF a hcl hB; intro a hF hcl hB
     refine dr_val hF hcl hB 18 rfl (.on rfl rfl rfl rfl rfl) rfl rfl (by kernel_rfl) rfl (fun w => (ex_len rfl sl_22 rfl hvX)) ?_; clear hF a hcl hB; intro a hF hcl hB
     refine dr_val hF hcl hB 19 rfl (.on rfl rfl rfl rfl rfl) rfl rfl (by kernel_rfl) rfl (fun w => (ex_eql rfl rfl rfl)) ?_; clear hF a hcl hB; intro a hF hcl hB
     refine dr_val hF hcl hB 20 rfl (.free rfl) rfl rfl (by kernel_rfl) rfl (fun w => (ex_pick_t rfl rfl rfl)) ?_; clear hF a hcl hB; intro a hF hcl hB
     refine dr_val hF hcl hB 21 rfl (.free rfl) rfl rfl (by kernel_rfl) rfl (fun w => (ex_move rfl rfl)) ?_; clear hF a hcl hB; intro a hF hcl hB
     refine by_slot hF (d := 36) rfl ?_ ?_ <;> clear hF <;> intro hc hF
     ·
      refine dr_val hF hcl hB 22 rfl (.on rfl rfl rfl rfl rfl) rfl rfl (by kernel_rfl) rfl (fun w => (ex_field (b := ⟨g2, 0, none⟩) rfl fd_30_0 rfl rfl)) ?_; clear hF a hcl hB; intro a hF hcl hB
      refine dr_loadA hF hcl hB 23 rfl (.on rfl rfl rfl rfl rfl) rfl rfl (by kernel_rfl) rfl (fun w hS => (ex_load_blk 8 rfl pl_22 rfl hS rfl rfl)) ?_; clear hF a hcl hB; intro a hF hcl hB
      refine dr_val hF hcl hB 24 rfl (.on rfl rfl rfl rfl rfl) rfl rfl (by kernel_rfl) rfl (fun w => (ex_index (k := 0) rfl sl_22 rfl rfl hvX (by omega) (by omega) (by omega))) ?_; clear hF a hcl hB; intro a hF hcl hB
      refine dr_loadA hF hcl hB 25 rfl (.on rfl rfl rfl rfl rfl) rfl rfl (by kernel_rfl) rfl (fun w hS => (ex_load_row (u := .int .i64 (s.X 0)) rfl pl_3 rfl (hS.rowN 6 rfl) (by omega) (by omega) rfl)) ?_; clear hF a hcl hB; intro a hF hcl hB
      refine dr_val hF hcl hB 26 rfl (.on rfl rfl rfl rfl rfl) rfl rfl (by kernel_rfl) rfl (fun w => (ex_field (b := ⟨g2, 3, none⟩) rfl fd_30_3 rfl rfl)) ?_; clear hF a hcl hB; intro a hF hcl hB
      refine dr_loadA hF hcl hB 27 rfl (.on rfl rfl rfl rfl rfl) rfl rfl (by kernel_rfl) rfl (fun w hS => (ex_load_blk 8 rfl pl_3 rfl hS rfl rfl)) ?_; clear hF a hcl hB; intro a hF hcl hB
      refine dr_val hF hcl hB 28 rfl (.on rfl rfl rfl rfl rfl) rfl rfl (by kernel_rfl) rfl (fun w => (ex_eql rfl rfl rfl)) ?_; clear hF a hcl hB; intro a hF hcl hB
      refine dr_val hF hcl hB 29 rfl (.free rfl) rfl rfl (by kernel_rfl) rfl (fun w => (ex_pick_t rfl rfl rfl)) ?_; clear hF a hcl hB; intro a hF hcl hB
      refine dr_val hF hcl hB 30 rfl (.free rfl) rfl rfl (by kernel_rfl) rfl (fun w => (ex_move rfl rfl)) ?_; clear hF a hcl hB; intro a hF hcl hB
      refine by_slot hF (d := 45) rfl ?_ ?_ <;> clear hF <;> intro hc hF
      ·
       refine dr_val hF hcl hB 31 rfl (.on rfl rfl rfl rfl rfl) rfl rfl (by kernel_rfl) rfl (fun w => (ex_field (b := ⟨g2, 0, none⟩) rfl fd_30_0 rfl rfl)) ?_; clear hF a hcl hB; intro a hF hcl hB
       refine dr_loadA hF hcl hB 32 rfl (.on rfl rfl rfl rfl rfl) rfl rfl (by kernel_rfl) rfl (fun w hS => (ex_load_blk 8 rfl pl_22 rfl hS rfl rfl)) ?_; clear hF a hcl hB; intro a hF hcl hB
       refine dr_val hF hcl hB 33 rfl (.on rfl rfl rfl rfl rfl) rfl rfl (by kernel_rfl) rfl (fun w => (ex_index (k := 1) rfl sl_22 rfl rfl hvX (by omega) (by omega) (by omega))) ?_; clear hF a hcl hB; intro a hF hcl hB
       refine dr_loadA hF hcl hB 34 rfl (.on rfl rfl rfl rfl rfl) rfl rfl (by kernel_rfl) rfl (fun w hS => (ex_load_row (u := .int .i64 (s.X 1)) rfl pl_3 rfl (hS.rowN 6 rfl) (by omega) (by omega) rfl)) ?_; clear hF a hcl hB; intro a hF hcl hB
       refine dr_val hF hcl hB 35 rfl (.on rfl rfl rfl rfl rfl) rfl rfl (by kernel_rfl) rfl (fun w => (ex_field (b := ⟨g2, 3, none⟩) rfl fd_30_3 rfl rfl)) ?_; clear hF a hcl hB; intro a hF hcl hB
       refine dr_loadA hF hcl hB 36 rfl (.on rfl rfl rfl rfl rfl) rfl rfl (by kernel_rfl) rfl (fun w hS => (ex_load_blk 8 rfl pl_3 rfl hS rfl rfl)) ?_; clear hF a hcl hB; intro a hF hcl hB
       refine dr_val hF hcl hB 37 rfl (.on rfl rfl rfl rfl rfl) rfl rfl (by kernel_rfl) rfl (fun w => (ex_eql rfl rfl rfl)) ?_; clear hF a hcl hB; intro a hF hcl hB
       refine dr_val hF hcl hB 38 rfl (.free rfl) rfl rfl (by kernel_rfl) rfl (fun w => (ex_pick_t rfl rfl rfl)) ?_; clear hF a hcl hB; intro a hF hcl hB
       refine dr_val hF hcl hB 39 rfl (.free rfl) rfl rfl (by kernel_rfl) rfl (fun w => (ex_move rfl rfl)) ?_; clear hF a hcl hB; intro a hF hcl hB
       refine by_slot hF (d := 54) rfl ?_ ?_ <;> clear hF <;> intro hc hF
       ·
        refine dr_val hF hcl hB 40 rfl (.on rfl rfl rfl rfl rfl) rfl rfl (by kernel_rfl) rfl (fun w => (ex_field (b := ⟨g2, 1, none⟩) rfl fd_30_1 rfl rfl)) ?_; clear hF a hcl hB; intro a hF hcl hB
        refine dr_loadA hF hcl hB 41 rfl (.on rfl rfl rfl rfl rfl) rfl rfl (by kernel_rfl) rfl (fun w hS => (ex_load_blk 8 rfl pl_22 rfl hS rfl rfl)) ?_; clear hF a hcl hB; intro a hF hcl hB
        refine dr_val hF hcl hB 42 rfl (.on rfl rfl rfl rfl rfl) rfl rfl (by kernel_rfl) rfl (fun w => (ex_len rfl sl_22 rfl hvY)) ?_; clear hF a hcl hB; intro a hF hcl hB
        refine dr_val hF hcl hB 43 rfl (.on rfl rfl rfl rfl rfl) rfl rfl (by kernel_rfl) rfl (fun w => (ex_eql rfl rfl rfl)) ?_; clear hF a hcl hB; intro a hF hcl hB
        refine dr_val hF hcl hB 44 rfl (.free rfl) rfl rfl (by kernel_rfl) rfl (fun w => (ex_pick_t rfl rfl rfl)) ?_; clear hF a hcl hB; intro a hF hcl hB
        refine dr_val hF hcl hB 45 rfl (.free rfl) rfl rfl (by kernel_rfl) rfl (fun w => (ex_move rfl rfl)) ?_; clear hF a hcl hB; intro a hF hcl hB
        refine by_slot hF (d := 60) rfl ?_ ?_ <;> clear hF <;> intro hc hF
        ·
         refine dr_val hF hcl hB 46 rfl (.on rfl rfl rfl rfl rfl) rfl rfl (by kernel_rfl) rfl (fun w => (ex_field (b := ⟨g2, 1, none⟩) rfl fd_30_1 rfl rfl)) ?_; clear hF a hcl hB; intro a hF hcl hB
         refine dr_loadA hF hcl hB 47 rfl (.on rfl rfl rfl rfl rfl) rfl rfl (by kernel_rfl) rfl (fun w hS => (ex_load_blk 8 rfl pl_22 rfl hS rfl rfl)) ?_; clear hF a hcl hB; intro a hF hcl hB
         refine dr_val hF hcl hB 48 rfl (.on rfl rfl rfl rfl rfl) rfl rfl (by kernel_rfl) rfl (fun w => (ex_index (k := 0) rfl sl_22 rfl rfl hvY (by omega) (by omega) (by omega))) ?_; clear hF a hcl hB; intro a hF hcl hB
         refine dr_loadA hF hcl hB 49 rfl (.on rfl rfl rfl rfl rfl) rfl rfl (by kernel_rfl) rfl (fun w hS => (ex_load_row (u := .int .i64 (s.Y 0)) rfl pl_3 rfl (hS.rowN 7 rfl) (by omega) (by omega) rfl)) ?_; clear hF a hcl hB; intro a hF hcl hB
         refine dr_val hF hcl hB 50 rfl (.on rfl rfl rfl rfl rfl) rfl rfl (by kernel_rfl) rfl (fun w => (ex_mul (r := 5 * (s.Y 0)) rfl rfl rfl (by omega) (by unfold I64; omega))) ?_; clear hF a hcl hB; intro a hF hcl hB
         refine dr_val hF hcl hB 51 rfl (.on rfl rfl rfl rfl rfl) rfl rfl (by kernel_rfl) rfl (fun w => (ex_field (b := ⟨g2, 3, none⟩) rfl fd_30_3 rfl rfl)) ?_; clear hF a hcl hB; intro a hF hcl hB
         refine dr_loadA hF hcl hB 52 rfl (.on rfl rfl rfl rfl rfl) rfl rfl (by kernel_rfl) rfl (fun w hS => (ex_load_blk 8 rfl pl_3 rfl hS rfl rfl)) ?_; clear hF a hcl hB; intro a hF hcl hB
         refine dr_val hF hcl hB 53 rfl (.on rfl rfl rfl rfl rfl) rfl rfl (by kernel_rfl) rfl (fun w => (ex_mul (r := 2 * s.den) rfl rfl rfl (by omega) (by unfold I64; omega))) ?_; clear hF a hcl hB; intro a hF hcl hB
         refine dr_val hF hcl hB 54 rfl (.on rfl rfl rfl rfl rfl) rfl rfl (by kernel_rfl) rfl (fun w => (ex_eql rfl rfl rfl)) ?_; clear hF a hcl hB; intro a hF hcl hB
         refine dr_val hF hcl hB 55 rfl (.free rfl) rfl rfl (by kernel_rfl) rfl (fun w => (ex_pick_t rfl rfl rfl)) ?_; clear hF a hcl hB; intro a hF hcl hB
         refine dr_val hF hcl hB 56 rfl (.free rfl) rfl rfl (by kernel_rfl) rfl (fun w => (ex_move rfl rfl)) ?_; clear hF a hcl hB; intro a hF hcl hB
         refine by_slot hF (d := 71) rfl ?_ ?_ <;> clear hF <;> intro hc hF
         ·
          refine dr_val hF hcl hB 57 rfl (.on rfl rfl rfl rfl rfl) rfl rfl (by kernel_rfl) rfl (fun w => (ex_field (b := ⟨g2, 1, none⟩) rfl fd_30_1 rfl rfl)) ?_; clear hF a hcl hB; intro a hF hcl hB
          refine dr_loadA hF hcl hB 58 rfl (.on rfl rfl rfl rfl rfl) rfl rfl (by kernel_rfl) rfl (fun w hS => (ex_load_blk 8 rfl pl_22 rfl hS rfl rfl)) ?_; clear hF a hcl hB; intro a hF hcl hB
          refine dr_val hF hcl hB 59 rfl (.on rfl rfl rfl rfl rfl) rfl rfl (by kernel_rfl) rfl (fun w => (ex_index (k := 1) rfl sl_22 rfl rfl hvY (by omega) (by omega) (by omega))) ?_; clear hF a hcl hB; intro a hF hcl hB
          refine dr_loadA hF hcl hB 60 rfl (.on rfl rfl rfl rfl rfl) rfl rfl (by kernel_rfl) rfl (fun w hS => (ex_load_row (u := .int .i64 (s.Y 1)) rfl pl_3 rfl (hS.rowN 7 rfl) (by omega) (by omega) rfl)) ?_; clear hF a hcl hB; intro a hF hcl hB
          refine dr_val hF hcl hB 61 rfl (.on rfl rfl rfl rfl rfl) rfl rfl (by kernel_rfl) rfl (fun w => (ex_mul (r := 5 * (s.Y 1)) rfl rfl rfl (by omega) (by unfold I64; omega))) ?_; clear hF a hcl hB; intro a hF hcl hB
          refine dr_val hF hcl hB 62 rfl (.on rfl rfl rfl rfl rfl) rfl rfl (by kernel_rfl) rfl (fun w => (ex_field (b := ⟨g2, 3, none⟩) rfl fd_30_3 rfl rfl)) ?_; clear hF a hcl hB; intro a hF hcl hB
          refine dr_loadA hF hcl hB 63 rfl (.on rfl rfl rfl rfl rfl) rfl rfl (by kernel_rfl) rfl (fun w hS => (ex_load_blk 8 rfl pl_3 rfl hS rfl rfl)) ?_; clear hF a hcl hB; intro a hF hcl hB
          refine dr_val hF hcl hB 64 rfl (.on rfl rfl rfl rfl rfl) rfl rfl (by kernel_rfl) rfl (fun w => (ex_eql rfl rfl rfl)) ?_; clear hF a hcl hB; intro a hF hcl hB
          refine dr_val hF hcl hB 65 rfl (.free rfl) rfl rfl (by kernel_rfl) rfl (fun w => (ex_pick_t rfl rfl rfl)) ?_; clear hF a hcl hB; intro a hF hcl hB
          refine dr_val hF hcl hB 66 rfl (.free rfl) rfl rfl (by kernel_rfl) rfl (fun w => (ex_move rfl rfl)) ?_; clear hF a hcl hB; intro a hF hcl hB
          refine by_slot hF (d := 81) rfl ?_ ?_ <;> clear hF <;> intro hc hF
          ·
           refine dr_loadA hF hcl hB 67 rfl (.on rfl rfl rfl rfl rfl) rfl rfl (by kernel_rfl) rfl (fun w hS => (ex_loads_blk 5 rfl st_34 rfl hS rfl rfl)) ?_; clear hF a hcl hB; intro a hF hcl hB
           refine dr_loadA hF hcl hB 68 rfl (.on rfl rfl rfl rfl rfl) rfl rfl (by kernel_rfl) rfl (fun w hS => (ex_loads_blk 8 rfl st_30 rfl hS rfl rfl)) ?_; clear hF a hcl hB; intro a hF hcl hB
           refine dr_call hF hcl 69 rfl (.on rfl rfl rfl rfl rfl) rfl rfl (by kernel_rfl) (ex_call0 rfl rfl cl_18 (args_cons rfl (args_cons rfl args0))) (c_check (p := pEx) (s := s) w (⟨(hS.rowN 0 rfl), matEx (hS.rowN 3 rfl) (hS.rowN 1 rfl) (hS.rowN 2 rfl) (Ent.holds.roomy (hS.holds _ (List.mem_of_getElem? (i := 1) rfl))) (Ent.holds.roomy (hS.holds _ (List.mem_of_getElem? (i := 2) rfl))), (hS.rowN 4 rfl)⟩ : LAt _ v1 v4 v5 (pair2 v2 v3) pEx) (hS.rowN 6 rfl) (hS.rowN 7 rfl)) ?_; clear hF hB; rintro _ w ⟨rfl, hS'⟩ a hF hcl
           replace hS : Sat w0 w [.own v1 1 3 2 (ints (fun k => [1, 1].getD k.toNat 0)), .own v2 1 3 2 (ints (fun k => [2, 1].getD k.toNat 0)), .own v3 1 3 2 (ints (fun k => [1, 3].getD k.toNat 0)), .own v4 1 22 2 (fun k => ([(v2 : Value), (v3 : Value)]).getD k.toNat undef), .own v5 1 3 2 (ints (fun k => [3, 4].getD k.toNat 0)), .blk g1 [v1, v4, v5], .own vX 1 3 s.n (ints s.X), .own vY 1 3 s.m (ints s.Y), .blk g2 [vX, vY, .int .i64 s.val, .int .i64 s.den]] := hS.comp hS'; clear hS'
           refine ⟨⟨(fun _ => hS.sub (.cons_cons _ (.cons_cons _ (.cons_cons _ (.cons_cons _ (.cons_cons _ (.cons_cons _ (.cons_cons _ (.cons_cons _ (.cons_cons _ .slnil)))))))))), hS.sub (.cons_cons _ (.cons_cons _ (.cons_cons _ (.cons_cons _ (.cons_cons _ (.cons_cons _ (.cons_cons _ (.cons_cons _ (.cons_cons _ .slnil)))))))))⟩, fun hB => ?_⟩
           refine dr_val hF hcl hB 70 rfl (.free rfl) rfl rfl (by kernel_rfl) rfl (fun w => (ex_pick_t rfl rfl rfl)) ?_; clear hF a hcl hB; intro a hF hcl hB
           refine dr_val hF hcl hB 71 rfl (.free rfl) rfl rfl (by kernel_rfl) rfl (fun w => (ex_assign rfl rfl)) ?_; clear hF a hcl hB; intro a hF hcl hB
           refine dr_done (by kernel_rfl) ?_; clear hcl hB
           refine then_normal ?_
           refine wp_ret ?_
           refine (fin1 hF rfl rfl ⟨_, rfl, ?_⟩)
           exact ⟨(true_B (by first | exact eC | omega)).symm, hS.sub (.cons _ (.cons _ (.cons _ (.cons _ (.cons _ (.cons _ (.cons _ (.cons _ (.cons _ .slnil)))))))))⟩
          ·
           refine dr_off hF hcl hB 67 rfl (.on rfl rfl rfl rfl rfl) rfl rfl (by kernel_rfl) rfl ?_; clear hF a hcl hB; intro a hF hcl hB
           refine dr_off hF hcl hB 68 rfl (.on rfl rfl rfl rfl rfl) rfl rfl (by kernel_rfl) rfl ?_; clear hF a hcl hB; intro a hF hcl hB
           refine dr_off hF hcl hB 69 rfl (.on rfl rfl rfl rfl rfl) rfl rfl (by kernel_rfl) rfl ?_; clear hF a hcl hB; intro a hF hcl hB
           refine dr_val hF hcl hB 70 rfl (.free rfl) rfl rfl (by kernel_rfl) rfl (fun w => (ex_pick_f rfl rfl rfl)) ?_; clear hF a hcl hB; intro a hF hcl hB
           refine dr_val hF hcl hB 71 rfl (.free rfl) rfl rfl (by kernel_rfl) rfl (fun w => (ex_assign rfl rfl)) ?_; clear hF a hcl hB; intro a hF hcl hB
           refine dr_done (by kernel_rfl) ?_; clear hcl hB
           refine then_normal ?_
           refine wp_ret ?_
           refine (fin1 hF rfl rfl ⟨_, rfl, ?_⟩)
           exact absurd ‹_› (by first | omega | exact not_not_intro eC)
         ·
          refine dr_off hF hcl hB 57 rfl (.on rfl rfl rfl rfl rfl) rfl rfl (by kernel_rfl) rfl ?_; clear hF a hcl hB; intro a hF hcl hB
          refine dr_off hF hcl hB 58 rfl (.on rfl rfl rfl rfl rfl) rfl rfl (by kernel_rfl) rfl ?_; clear hF a hcl hB; intro a hF hcl hB
          refine dr_off hF hcl hB 59 rfl (.on rfl rfl rfl rfl rfl) rfl rfl (by kernel_rfl) rfl ?_; clear hF a hcl hB; intro a hF hcl hB
          refine dr_off hF hcl hB 60 rfl (.on rfl rfl rfl rfl rfl) rfl rfl (by kernel_rfl) rfl ?_; clear hF a hcl hB; intro a hF hcl hB
          refine dr_off hF hcl hB 61 rfl (.on rfl rfl rfl rfl rfl) rfl rfl (by kernel_rfl) rfl ?_; clear hF a hcl hB; intro a hF hcl hB
          refine dr_off hF hcl hB 62 rfl (.on rfl rfl rfl rfl rfl) rfl rfl (by kernel_rfl) rfl ?_; clear hF a hcl hB; intro a hF hcl hB
          refine dr_off hF hcl hB 63 rfl (.on rfl rfl rfl rfl rfl) rfl rfl (by kernel_rfl) rfl ?_; clear hF a hcl hB; intro a hF hcl hB
          refine dr_off hF hcl hB 64 rfl (.on rfl rfl rfl rfl rfl) rfl rfl (by kernel_rfl) rfl ?_; clear hF a hcl hB; intro a hF hcl hB
          refine dr_val hF hcl hB 65 rfl (.free rfl) rfl rfl (by kernel_rfl) rfl (fun w => (ex_pick_f rfl rfl rfl)) ?_; clear hF a hcl hB; intro a hF hcl hB
          refine dr_val hF hcl hB 66 rfl (.free rfl) rfl rfl (by kernel_rfl) rfl (fun w => (ex_move rfl rfl)) ?_; clear hF a hcl hB; intro a hF hcl hB
          refine dr_off hF hcl hB 67 rfl (.on rfl rfl rfl rfl rfl) rfl rfl (by kernel_rfl) rfl ?_; clear hF a hcl hB; intro a hF hcl hB
          refine dr_off hF hcl hB 68 rfl (.on rfl rfl rfl rfl rfl) rfl rfl (by kernel_rfl) rfl ?_; clear hF a hcl hB; intro a hF hcl hB
          refine dr_off hF hcl hB 69 rfl (.on rfl rfl rfl rfl rfl) rfl rfl (by kernel_rfl) rfl ?_; clear hF a hcl hB; intro a hF hcl hB
          refine dr_val hF hcl hB 70 rfl (.free rfl) rfl rfl (by kernel_rfl) rfl (fun w => (ex_pick_f rfl rfl rfl)) ?_; clear hF a hcl hB; intro a hF hcl hB
          refine dr_val hF hcl hB 71 rfl (.free rfl) rfl rfl (by kernel_rfl) rfl (fun w => (ex_assign rfl rfl)) ?_; clear hF a hcl hB; intro a hF hcl hB
          refine dr_done (by kernel_rfl) ?_; clear hcl hB
          refine then_normal ?_
          refine wp_ret ?_
          refine (fin1 hF rfl rfl ⟨_, rfl, ?_⟩)
          exact absurd ‹_› (by first | omega | exact not_not_intro eC)
        ·
         refine dr_off hF hcl hB 46 rfl (.on rfl rfl rfl rfl rfl) rfl rfl (by kernel_rfl) rfl ?_; clear hF a hcl hB; intro a hF hcl hB
         refine dr_off hF hcl hB 47 rfl (.on rfl rfl rfl rfl rfl) rfl rfl (by kernel_rfl) rfl ?_; clear hF a hcl hB; intro a hF hcl hB
         refine dr_off hF hcl hB 48 rfl (.on rfl rfl rfl rfl rfl) rfl rfl (by kernel_rfl) rfl ?_; clear hF a hcl hB; intro a hF hcl hB
         refine dr_off hF hcl hB 49 rfl (.on rfl rfl rfl rfl rfl) rfl rfl (by kernel_rfl) rfl ?_; clear hF a hcl hB; intro a hF hcl hB
         refine dr_off hF hcl hB 50 rfl (.on rfl rfl rfl rfl rfl) rfl rfl (by kernel_rfl) rfl ?_; clear hF a hcl hB; intro a hF hcl hB
         refine dr_off hF hcl hB 51 rfl (.on rfl rfl rfl rfl rfl) rfl rfl (by kernel_rfl) rfl ?_; clear hF a hcl hB; intro a hF hcl hB
         refine dr_off hF hcl hB 52 rfl (.on rfl rfl rfl rfl rfl) rfl rfl (by kernel_rfl) rfl ?_; clear hF a hcl hB; intro a hF hcl hB
         refine dr_off hF hcl hB 53 rfl (.on rfl rfl rfl rfl rfl) rfl rfl (by kernel_rfl) rfl ?_; clear hF a hcl hB; intro a hF hcl hB
         refine dr_off hF hcl hB 54 rfl (.on rfl rfl rfl rfl rfl) rfl rfl (by kernel_rfl) rfl ?_; clear hF a hcl hB; intro a hF hcl hB
         refine dr_val hF hcl hB 55 rfl (.free rfl) rfl rfl (by kernel_rfl) rfl (fun w => (ex_pick_f rfl rfl rfl)) ?_; clear hF a hcl hB; intro a hF hcl hB
         refine dr_val hF hcl hB 56 rfl (.free rfl) rfl rfl (by kernel_rfl) rfl (fun w => (ex_move rfl rfl)) ?_; clear hF a hcl hB; intro a hF hcl hB
         refine dr_off hF hcl hB 57 rfl (.on rfl rfl rfl rfl rfl) rfl rfl (by kernel_rfl) rfl ?_; clear hF a hcl hB; intro a hF hcl hB
         refine dr_off hF hcl hB 58 rfl (.on rfl rfl rfl rfl rfl) rfl rfl (by kernel_rfl) rfl ?_; clear hF a hcl hB; intro a hF hcl hB
         refine dr_off hF hcl hB 59 rfl (.on rfl rfl rfl rfl rfl) rfl rfl (by kernel_rfl) rfl ?_; clear hF a hcl hB; intro a hF hcl hB
         refine dr_off hF hcl hB 60 rfl (.on rfl rfl rfl rfl rfl) rfl rfl (by kernel_rfl) rfl ?_; clear hF a hcl hB; intro a hF hcl hB
         refine dr_off hF hcl hB 61 rfl (.on rfl rfl rfl rfl rfl) rfl rfl (by kernel_rfl) rfl ?_; clear hF a hcl hB; intro a hF hcl hB
         refine dr_off hF hcl hB 62 rfl (.on rfl rfl rfl rfl rfl) rfl rfl (by kernel_rfl) rfl ?_; clear hF a hcl hB; intro a hF hcl hB
         refine dr_off hF hcl hB 63 rfl (.on rfl rfl rfl rfl rfl) rfl rfl (by kernel_rfl) rfl ?_; clear hF a hcl hB; intro a hF hcl hB
         refine dr_off hF hcl hB 64 rfl (.on rfl rfl rfl rfl rfl) rfl rfl (by kernel_rfl) rfl ?_; clear hF a hcl hB; intro a hF hcl hB
         refine dr_val hF hcl hB 65 rfl (.free rfl) rfl rfl (by kernel_rfl) rfl (fun w => (ex_pick_f rfl rfl rfl)) ?_; clear hF a hcl hB; intro a hF hcl hB
         refine dr_val hF hcl hB 66 rfl (.free rfl) rfl rfl (by kernel_rfl) rfl (fun w => (ex_move rfl rfl)) ?_; clear hF a hcl hB; intro a hF hcl hB
         refine dr_off hF hcl hB 67 rfl (.on rfl rfl rfl rfl rfl) rfl rfl (by kernel_rfl) rfl ?_; clear hF a hcl hB; intro a hF hcl hB
         refine dr_off hF hcl hB 68 rfl (.on rfl rfl rfl rfl rfl) rfl rfl (by kernel_rfl) rfl ?_; clear hF a hcl hB; intro a hF hcl hB
         refine dr_off hF hcl hB 69 rfl (.on rfl rfl rfl rfl rfl) rfl rfl (by kernel_rfl) rfl ?_; clear hF a hcl hB; intro a hF hcl hB
         refine dr_val hF hcl hB 70 rfl (.free rfl) rfl rfl (by kernel_rfl) rfl (fun w => (ex_pick_f rfl rfl rfl)) ?_; clear hF a hcl hB; intro a hF hcl hB
         refine dr_val hF hcl hB 71 rfl (.free rfl) rfl rfl (by kernel_rfl) rfl (fun w => (ex_assign rfl rfl)) ?_; clear hF a hcl hB; intro a hF hcl hB
         refine dr_done (by kernel_rfl) ?_; clear hcl hB
         refine then_normal ?_
         refine wp_ret ?_
         refine (fin1 hF rfl rfl ⟨_, rfl, ?_⟩)
         exact absurd ‹_› (by first | omega | exact not_not_intro eC)
       ·
        refine dr_off hF hcl hB 40 rfl (.on rfl rfl rfl rfl rfl) rfl rfl (by kernel_rfl) rfl ?_; clear hF a hcl hB; intro a hF hcl hB
        refine dr_off hF hcl hB 41 rfl (.on rfl rfl rfl rfl rfl) rfl rfl (by kernel_rfl) rfl ?_; clear hF a hcl hB; intro a hF hcl hB
        refine dr_off hF hcl hB 42 rfl (.on rfl rfl rfl rfl rfl) rfl rfl (by kernel_rfl) rfl ?_; clear hF a hcl hB; intro a hF hcl hB
        refine dr_off hF hcl hB 43 rfl (.on rfl rfl rfl rfl rfl) rfl rfl (by kernel_rfl) rfl ?_; clear hF a hcl hB; intro a hF hcl hB
        refine dr_val hF hcl hB 44 rfl (.free rfl) rfl rfl (by kernel_rfl) rfl (fun w => (ex_pick_f rfl rfl rfl)) ?_; clear hF a hcl hB; intro a hF hcl hB
        refine dr_val hF hcl hB 45 rfl (.free rfl) rfl rfl (by kernel_rfl) rfl (fun w => (ex_move rfl rfl)) ?_; clear hF a hcl hB; intro a hF hcl hB
        refine dr_off hF hcl hB 46 rfl (.on rfl rfl rfl rfl rfl) rfl rfl (by kernel_rfl) rfl ?_; clear hF a hcl hB; intro a hF hcl hB
        refine dr_off hF hcl hB 47 rfl (.on rfl rfl rfl rfl rfl) rfl rfl (by kernel_rfl) rfl ?_; clear hF a hcl hB; intro a hF hcl hB
        refine dr_off hF hcl hB 48 rfl (.on rfl rfl rfl rfl rfl) rfl rfl (by kernel_rfl) rfl ?_; clear hF a hcl hB; intro a hF hcl hB
        refine dr_off hF hcl hB 49 rfl (.on rfl rfl rfl rfl rfl) rfl rfl (by kernel_rfl) rfl ?_; clear hF a hcl hB; intro a hF hcl hB
        refine dr_off hF hcl hB 50 rfl (.on rfl rfl rfl rfl rfl) rfl rfl (by kernel_rfl) rfl ?_; clear hF a hcl hB; intro a hF hcl hB
        refine dr_off hF hcl hB 51 rfl (.on rfl rfl rfl rfl rfl) rfl rfl (by kernel_rfl) rfl ?_; clear hF a hcl hB; intro a hF hcl hB
        refine dr_off hF hcl hB 52 rfl (.on rfl rfl rfl rfl rfl) rfl rfl (by kernel_rfl) rfl ?_; clear hF a hcl hB; intro a hF hcl hB
        refine dr_off hF hcl hB 53 rfl (.on rfl rfl rfl rfl rfl) rfl rfl (by kernel_rfl) rfl ?_; clear hF a hcl hB; intro a hF hcl hB
        refine dr_off hF hcl hB 54 rfl (.on rfl rfl rfl rfl rfl) rfl rfl (by kernel_rfl) rfl ?_; clear hF a hcl hB; intro a hF hcl hB
        refine dr_val hF hcl hB 55 rfl (.free rfl) rfl rfl (by kernel_rfl) rfl (fun w => (ex_pick_f rfl rfl rfl)) ?_; clear hF a hcl hB; intro a hF hcl hB
        refine dr_val hF hcl hB 56 rfl (.free rfl) rfl rfl (by kernel_rfl) rfl (fun w => (ex_move rfl rfl)) ?_; clear hF a hcl hB; intro a hF hcl hB
        refine dr_off hF hcl hB 57 rfl (.on rfl rfl rfl rfl rfl) rfl rfl (by kernel_rfl) rfl ?_; clear hF a hcl hB; intro a hF hcl hB
        refine dr_off hF hcl hB 58 rfl (.on rfl rfl rfl rfl rfl) rfl rfl (by kernel_rfl) rfl ?_; clear hF a hcl hB; intro a hF hcl hB
        refine dr_off hF hcl hB 59 rfl (.on rfl rfl rfl rfl rfl) rfl rfl (by kernel_rfl) rfl ?_; clear hF a hcl hB; intro a hF hcl hB
        refine dr_off hF hcl hB 60 rfl (.on rfl rfl rfl rfl rfl) rfl rfl (by kernel_rfl) rfl ?_; clear hF a hcl hB; intro a hF hcl hB
        refine dr_off hF hcl hB 61 rfl (.on rfl rfl rfl rfl rfl) rfl rfl (by kernel_rfl) rfl ?_; clear hF a hcl hB; intro a hF hcl hB
        refine dr_off hF hcl hB 62 rfl (.on rfl rfl rfl rfl rfl) rfl rfl (by kernel_rfl) rfl ?_; clear hF a hcl hB; intro a hF hcl hB
        refine dr_off hF hcl hB 63 rfl (.on rfl rfl rfl rfl rfl) rfl rfl (by kernel_rfl) rfl ?_; clear hF a hcl hB; intro a hF hcl hB
        refine dr_off hF hcl hB 64 rfl (.on rfl rfl rfl rfl rfl) rfl rfl (by kernel_rfl) rfl ?_; clear hF a hcl hB; intro a hF hcl hB
        refine dr_val hF hcl hB 65 rfl (.free rfl) rfl rfl (by kernel_rfl) rfl (fun w => (ex_pick_f rfl rfl rfl)) ?_; clear hF a hcl hB; intro a hF hcl hB
        refine dr_val hF hcl hB 66 rfl (.free rfl) rfl rfl (by kernel_rfl) rfl (fun w => (ex_move rfl rfl)) ?_; clear hF a hcl hB; intro a hF hcl hB
        refine dr_off hF hcl hB 67 rfl (.on rfl rfl rfl rfl rfl) rfl rfl (by kernel_rfl) rfl ?_; clear hF a hcl hB; intro a hF hcl hB
        refine dr_off hF hcl hB 68 rfl (.on rfl rfl rfl rfl rfl) rfl rfl (by kernel_rfl) rfl ?_; clear hF a hcl hB; intro a hF hcl hB
        refine dr_off hF hcl hB 69 rfl (.on rfl rfl rfl rfl rfl) rfl rfl (by kernel_rfl) rfl ?_; clear hF a hcl hB; intro a hF hcl hB
        refine dr_val hF hcl hB 70 rfl (.free rfl) rfl rfl (by kernel_rfl) rfl (fun w => (ex_pick_f rfl rfl rfl)) ?_; clear hF a hcl hB; intro a hF hcl hB
        refine dr_val hF hcl hB 71 rfl (.free rfl) rfl rfl (by kernel_rfl) rfl (fun w => (ex_assign rfl rfl)) ?_; clear hF a hcl hB; intro a hF hcl hB
        refine dr_done (by kernel_rfl) ?_; clear hcl hB
        refine then_normal ?_
        refine wp_ret ?_
        refine (fin1 hF rfl rfl ⟨_, rfl, ?_⟩)
        exact absurd ‹_› (by first | omega | exact not_not_intro eC)
      ·
       refine dr_off hF hcl hB 31 rfl (.on rfl rfl rfl rfl rfl) rfl rfl (by kernel_rfl) rfl ?_; clear hF a hcl hB; intro a hF hcl hB
       refine dr_off hF hcl hB 32 rfl (.on rfl rfl rfl rfl rfl) rfl rfl (by kernel_rfl) rfl ?_; clear hF a hcl hB; intro a hF hcl hB
       refine dr_off hF hcl hB 33 rfl (.on rfl rfl rfl rfl rfl) rfl rfl (by kernel_rfl) rfl ?_; clear hF a hcl hB; intro a hF hcl hB
       refine dr_off hF hcl hB 34 rfl (.on rfl rfl rfl rfl rfl) rfl rfl (by kernel_rfl) rfl ?_; clear hF a hcl hB; intro a hF hcl hB
       refine dr_off hF hcl hB 35 rfl (.on rfl rfl rfl rfl rfl) rfl rfl (by kernel_rfl) rfl ?_; clear hF a hcl hB; intro a hF hcl hB
       refine dr_off hF hcl hB 36 rfl (.on rfl rfl rfl rfl rfl) rfl rfl (by kernel_rfl) rfl ?_; clear hF a hcl hB; intro a hF hcl hB
       refine dr_off hF hcl hB 37 rfl (.on rfl rfl rfl rfl rfl) rfl rfl (by kernel_rfl) rfl ?_; clear hF a hcl hB; intro a hF hcl hB
       refine dr_val hF hcl hB 38 rfl (.free rfl) rfl rfl (by kernel_rfl) rfl (fun w => (ex_pick_f rfl rfl rfl)) ?_; clear hF a hcl hB; intro a hF hcl hB
       refine dr_val hF hcl hB 39 rfl (.free rfl) rfl rfl (by kernel_rfl) rfl (fun w => (ex_move rfl rfl)) ?_; clear hF a hcl hB; intro a hF hcl hB
       refine dr_off hF hcl hB 40 rfl (.on rfl rfl rfl rfl rfl) rfl rfl (by kernel_rfl) rfl ?_; clear hF a hcl hB; intro a hF hcl hB
       refine dr_off hF hcl hB 41 rfl (.on rfl rfl rfl rfl rfl) rfl rfl (by kernel_rfl) rfl ?_; clear hF a hcl hB; intro a hF hcl hB
       refine dr_off hF hcl hB 42 rfl (.on rfl rfl rfl rfl rfl) rfl rfl (by kernel_rfl) rfl ?_; clear hF a hcl hB; intro a hF hcl hB
       refine dr_off hF hcl hB 43 rfl (.on rfl rfl rfl rfl rfl) rfl rfl (by kernel_rfl) rfl ?_; clear hF a hcl hB; intro a hF hcl hB
       refine dr_val hF hcl hB 44 rfl (.free rfl) rfl rfl (by kernel_rfl) rfl (fun w => (ex_pick_f rfl rfl rfl)) ?_; clear hF a hcl hB; intro a hF hcl hB
       refine dr_val hF hcl hB 45 rfl (.free rfl) rfl rfl (by kernel_rfl) rfl (fun w => (ex_move rfl rfl)) ?_; clear hF a hcl hB; intro a hF hcl hB
       refine dr_off hF hcl hB 46 rfl (.on rfl rfl rfl rfl rfl) rfl rfl (by kernel_rfl) rfl ?_; clear hF a hcl hB; intro a hF hcl hB
       refine dr_off hF hcl hB 47 rfl (.on rfl rfl rfl rfl rfl) rfl rfl (by kernel_rfl) rfl ?_; clear hF a hcl hB; intro a hF hcl hB
       refine dr_off hF hcl hB 48 rfl (.on rfl rfl rfl rfl rfl) rfl rfl (by kernel_rfl) rfl ?_; clear hF a hcl hB; intro a hF hcl hB
       refine dr_off hF hcl hB 49 rfl (.on rfl rfl rfl rfl rfl) rfl rfl (by kernel_rfl) rfl ?_; clear hF a hcl hB; intro a hF hcl hB
       refine dr_off hF hcl hB 50 rfl (.on rfl rfl rfl rfl rfl) rfl rfl (by kernel_rfl) rfl ?_; clear hF a hcl hB; intro a hF hcl hB
       refine dr_off hF hcl hB 51 rfl (.on rfl rfl rfl rfl rfl) rfl rfl (by kernel_rfl) rfl ?_; clear hF a hcl hB; intro a hF hcl hB
       refine dr_off hF hcl hB 52 rfl (.on rfl rfl rfl rfl rfl) rfl rfl (by kernel_rfl) rfl ?_; clear hF a hcl hB; intro a hF hcl hB
       refine dr_off hF hcl hB 53 rfl (.on rfl rfl rfl rfl rfl) rfl rfl (by kernel_rfl) rfl ?_; clear hF a hcl hB; intro a hF hcl hB
       refine dr_off hF hcl hB 54 rfl (.on rfl rfl rfl rfl rfl) rfl rfl (by kernel_rfl) rfl ?_; clear hF a hcl hB; intro a hF hcl hB
       refine dr_val hF hcl hB 55 rfl (.free rfl) rfl rfl (by kernel_rfl) rfl (fun w => (ex_pick_f rfl rfl rfl)) ?_; clear hF a hcl hB; intro a hF hcl hB
       refine dr_val hF hcl hB 56 rfl (.free rfl) rfl rfl (by kernel_rfl) rfl (fun w => (ex_move rfl rfl)) ?_; clear hF a hcl hB; intro a hF hcl hB
       refine dr_off hF hcl hB 57 rfl (.on rfl rfl rfl rfl rfl) rfl rfl (by kernel_rfl) rfl ?_; clear hF a hcl hB; intro a hF hcl hB
       refine dr_off hF hcl hB 58 rfl (.on rfl rfl rfl rfl rfl) rfl rfl (by kernel_rfl) rfl ?_; clear hF a hcl hB; intro a hF hcl hB
       refine dr_off hF hcl hB 59 rfl (.on rfl rfl rfl rfl rfl) rfl rfl (by kernel_rfl) rfl ?_; clear hF a hcl hB; intro a hF hcl hB
       refine dr_off hF hcl hB 60 rfl (.on rfl rfl rfl rfl rfl) rfl rfl (by kernel_rfl) rfl ?_; clear hF a hcl hB; intro a hF hcl hB
       refine dr_off hF hcl hB 61 rfl (.on rfl rfl rfl rfl rfl) rfl rfl (by kernel_rfl) rfl ?_; clear hF a hcl hB; intro a hF hcl hB
       refine dr_off hF hcl hB 62 rfl (.on rfl rfl rfl rfl rfl) rfl rfl (by kernel_rfl) rfl ?_; clear hF a hcl hB; intro a hF hcl hB
       refine dr_off hF hcl hB 63 rfl (.on rfl rfl rfl rfl rfl) rfl rfl (by kernel_rfl) rfl ?_; clear hF a hcl hB; intro a hF hcl hB
       refine dr_off hF hcl hB 64 rfl (.on rfl rfl rfl rfl rfl) rfl rfl (by kernel_rfl) rfl ?_; clear hF a hcl hB; intro a hF hcl hB
       refine dr_val hF hcl hB 65 rfl (.free rfl) rfl rfl (by kernel_rfl) rfl (fun w => (ex_pick_f rfl rfl rfl)) ?_; clear hF a hcl hB; intro a hF hcl hB
       refine dr_val hF hcl hB 66 rfl (.free rfl) rfl rfl (by kernel_rfl) rfl (fun w => (ex_move rfl rfl)) ?_; clear hF a hcl hB; intro a hF hcl hB
       refine dr_off hF hcl hB 67 rfl (.on rfl rfl rfl rfl rfl) rfl rfl (by kernel_rfl) rfl ?_; clear hF a hcl hB; intro a hF hcl hB
       refine dr_off hF hcl hB 68 rfl (.on rfl rfl rfl rfl rfl) rfl rfl (by kernel_rfl) rfl ?_; clear hF a hcl hB; intro a hF hcl hB
       refine dr_off hF hcl hB 69 rfl (.on rfl rfl rfl rfl rfl) rfl rfl (by kernel_rfl) rfl ?_; clear hF a hcl hB; intro a hF hcl hB
       refine dr_val hF hcl hB 70 rfl (.free rfl) rfl rfl (by kernel_rfl) rfl (fun w => (ex_pick_f rfl rfl rfl)) ?_; clear hF a hcl hB; intro a hF hcl hB
       refine dr_val hF hcl hB 71 rfl (.free rfl) rfl rfl (by kernel_rfl) rfl (fun w => (ex_assign rfl rfl)) ?_; clear hF a hcl hB; intro a hF hcl hB
       refine dr_done (by kernel_rfl) ?_; clear hcl hB
       refine then_normal ?_
       refine wp_ret ?_
       refine (fin1 hF rfl rfl ⟨_, rfl, ?_⟩)
       exact absurd ‹_› (by first | omega | exact not_not_intro eC)
     ·
      refine dr_off hF hcl hB 22 rfl (.on rfl rfl rfl rfl rfl) rfl rfl (by kernel_rfl) rfl ?_; clear hF a hcl hB; intro a hF hcl hB
      refine dr_off hF hcl hB 23 rfl (.on rfl rfl rfl rfl rfl) rfl rfl (by kernel_rfl) rfl ?_; clear hF a hcl hB; intro a hF hcl hB
      refine dr_off hF hcl hB 24 rfl (.on rfl rfl rfl rfl rfl) rfl rfl (by kernel_rfl) rfl ?_; clear hF a hcl hB; intro a hF hcl hB
      refine dr_off hF hcl hB 25 rfl (.on rfl rfl rfl rfl rfl) rfl rfl (by kernel_rfl) rfl ?_; clear hF a hcl hB; intro a hF hcl hB
      refine dr_off hF hcl hB 26 rfl (.on rfl rfl rfl rfl rfl) rfl rfl (by kernel_rfl) rfl ?_; clear hF a hcl hB; intro a hF hcl hB
      refine dr_off hF hcl hB 27 rfl (.on rfl rfl rfl rfl rfl) rfl rfl (by kernel_rfl) rfl ?_; clear hF a hcl hB; intro a hF hcl hB
      refine dr_off hF hcl hB 28 rfl (.on rfl rfl rfl rfl rfl) rfl rfl (by kernel_rfl) rfl ?_; clear hF a hcl hB; intro a hF hcl hB
      refine dr_val hF hcl hB 29 rfl (.free rfl) rfl rfl (by kernel_rfl) rfl (fun w => (ex_pick_f rfl rfl rfl)) ?_; clear hF a hcl hB; intro a hF hcl hB
      refine dr_val hF hcl hB 30 rfl (.free rfl) rfl rfl (by kernel_rfl) rfl (fun w => (ex_move rfl rfl)) ?_; clear hF a hcl hB; intro a hF hcl hB
      refine dr_off hF hcl hB 31 rfl (.on rfl rfl rfl rfl rfl) rfl rfl (by kernel_rfl) rfl ?_; clear hF a hcl hB; intro a hF hcl hB
      refine dr_off hF hcl hB 32 rfl (.on rfl rfl rfl rfl rfl) rfl rfl (by kernel_rfl) rfl ?_; clear hF a hcl hB; intro a hF hcl hB
      refine dr_off hF hcl hB 33 rfl (.on rfl rfl rfl rfl rfl) rfl rfl (by kernel_rfl) rfl ?_; clear hF a hcl hB; intro a hF hcl hB
      refine dr_off hF hcl hB 34 rfl (.on rfl rfl rfl rfl rfl) rfl rfl (by kernel_rfl) rfl ?_; clear hF a hcl hB; intro a hF hcl hB
      refine dr_off hF hcl hB 35 rfl (.on rfl rfl rfl rfl rfl) rfl rfl (by kernel_rfl) rfl ?_; clear hF a hcl hB; intro a hF hcl hB
      refine dr_off hF hcl hB 36 rfl (.on rfl rfl rfl rfl rfl) rfl rfl (by kernel_rfl) rfl ?_; clear hF a hcl hB; intro a hF hcl hB
      refine dr_off hF hcl hB 37 rfl (.on rfl rfl rfl rfl rfl) rfl rfl (by kernel_rfl) rfl ?_; clear hF a hcl hB; intro a hF hcl hB
      refine dr_val hF hcl hB 38 rfl (.free rfl) rfl rfl (by kernel_rfl) rfl (fun w => (ex_pick_f rfl rfl rfl)) ?_; clear hF a hcl hB; intro a hF hcl hB
      refine dr_val hF hcl hB 39 rfl (.free rfl) rfl rfl (by kernel_rfl) rfl (fun w => (ex_move rfl rfl)) ?_; clear hF a hcl hB; intro a hF hcl hB
      refine dr_off hF hcl hB 40 rfl (.on rfl rfl rfl rfl rfl) rfl rfl (by kernel_rfl) rfl ?_; clear hF a hcl hB; intro a hF hcl hB
      refine dr_off hF hcl hB 41 rfl (.on rfl rfl rfl rfl rfl) rfl rfl (by kernel_rfl) rfl ?_; clear hF a hcl hB; intro a hF hcl hB
      refine dr_off hF hcl hB 42 rfl (.on rfl rfl rfl rfl rfl) rfl rfl (by kernel_rfl) rfl ?_; clear hF a hcl hB; intro a hF hcl hB
      refine dr_off hF hcl hB 43 rfl (.on rfl rfl rfl rfl rfl) rfl rfl (by kernel_rfl) rfl ?_; clear hF a hcl hB; intro a hF hcl hB
      refine dr_val hF hcl hB 44 rfl (.free rfl) rfl rfl (by kernel_rfl) rfl (fun w => (ex_pick_f rfl rfl rfl)) ?_; clear hF a hcl hB; intro a hF hcl hB
      refine dr_val hF hcl hB 45 rfl (.free rfl) rfl rfl (by kernel_rfl) rfl (fun w => (ex_move rfl rfl)) ?_; clear hF a hcl hB; intro a hF hcl hB
      refine dr_off hF hcl hB 46 rfl (.on rfl rfl rfl rfl rfl) rfl rfl (by kernel_rfl) rfl ?_; clear hF a hcl hB; intro a hF hcl hB
      refine dr_off hF hcl hB 47 rfl (.on rfl rfl rfl rfl rfl) rfl rfl (by kernel_rfl) rfl ?_; clear hF a hcl hB; intro a hF hcl hB
      refine dr_off hF hcl hB 48 rfl (.on rfl rfl rfl rfl rfl) rfl rfl (by kernel_rfl) rfl ?_; clear hF a hcl hB; intro a hF hcl hB
      refine dr_off hF hcl hB 49 rfl (.on rfl rfl rfl rfl rfl) rfl rfl (by kernel_rfl) rfl ?_; clear hF a hcl hB; intro a hF hcl hB
      refine dr_off hF hcl hB 50 rfl (.on rfl rfl rfl rfl rfl) rfl rfl (by kernel_rfl) rfl ?_; clear hF a hcl hB; intro a hF hcl hB
      refine dr_off hF hcl hB 51 rfl (.on rfl rfl rfl rfl rfl) rfl rfl (by kernel_rfl) rfl ?_; clear hF a hcl hB; intro a hF hcl hB
      refine dr_off hF hcl hB 52 rfl (.on rfl rfl rfl rfl rfl) rfl rfl (by kernel_rfl) rfl ?_; clear hF a hcl hB; intro a hF hcl hB
      refine dr_off hF hcl hB 53 rfl (.on rfl rfl rfl rfl rfl) rfl rfl (by kernel_rfl) rfl ?_; clear hF a hcl hB; intro a hF hcl hB
      refine dr_off hF hcl hB 54 rfl (.on rfl rfl rfl rfl rfl) rfl rfl (by kernel_rfl) rfl ?_; clear hF a hcl hB; intro a hF hcl hB
      refine dr_val hF hcl hB 55 rfl (.free rfl) rfl rfl (by kernel_rfl) rfl (fun w => (ex_pick_f rfl rfl rfl)) ?_; clear hF a hcl hB; intro a hF hcl hB
      refine dr_val hF hcl hB 56 rfl (.free rfl) rfl rfl (by kernel_rfl) rfl (fun w => (ex_move rfl rfl)) ?_; clear hF a hcl hB; intro a hF hcl hB
      refine dr_off hF hcl hB 57 rfl (.on rfl rfl rfl rfl rfl) rfl rfl (by kernel_rfl) rfl ?_; clear hF a hcl hB; intro a hF hcl hB
      refine dr_off hF hcl hB 58 rfl (.on rfl rfl rfl rfl rfl) rfl rfl (by kernel_rfl) rfl ?_; clear hF a hcl hB; intro a hF hcl hB
      refine dr_off hF hcl hB 59 rfl (.on rfl rfl rfl rfl rfl) rfl rfl (by kernel_rfl) rfl ?_; clear hF a hcl hB; intro a hF hcl hB
      refine dr_off hF hcl hB 60 rfl (.on rfl rfl rfl rfl rfl) rfl rfl (by kernel_rfl) rfl ?_; clear hF a hcl hB; intro a hF hcl hB
      refine dr_off hF hcl hB 61 rfl (.on rfl rfl rfl rfl rfl) rfl rfl (by kernel_rfl) rfl ?_; clear hF a hcl hB; intro a hF hcl hB
      refine dr_off hF hcl hB 62 rfl (.on rfl rfl rfl rfl rfl) rfl rfl (by kernel_rfl) rfl ?_; clear hF a hcl hB; intro a hF hcl hB
      refine dr_off hF hcl hB 63 rfl (.on rfl rfl rfl rfl rfl) rfl rfl (by kernel_rfl) rfl ?_; clear hF a hcl hB; intro a hF hcl hB
      refine dr_off hF hcl hB 64 rfl (.on rfl rfl rfl rfl rfl) rfl rfl (by kernel_rfl) rfl ?_; clear hF a hcl hB; intro a hF hcl hB
      refine dr_val hF hcl hB 65 rfl (.free rfl) rfl rfl (by kernel_rfl) rfl (fun w => (ex_pick_f rfl rfl rfl)) ?_; clear hF a hcl hB; intro a hF hcl hB
      refine dr_val hF hcl hB 66 rfl (.free rfl) rfl rfl (by kernel_rfl) rfl (fun w => (ex_move rfl rfl)) ?_; clear hF a hcl hB; intro a hF hcl hB
      refine dr_off hF hcl hB 67 rfl (.on rfl rfl rfl rfl rfl) rfl rfl (by kernel_rfl) rfl ?_; clear hF a hcl hB; intro a hF hcl hB
      refine dr_off hF hcl hB 68 rfl (.on rfl rfl rfl rfl rfl) rfl rfl (by kernel_rfl) rfl ?_; clear hF a hcl hB; intro a hF hcl hB
      refine dr_off hF hcl hB 69 rfl (.on rfl rfl rfl rfl rfl) rfl rfl (by kernel_rfl) rfl ?_; clear hF a hcl hB; intro a hF hcl hB
      refine dr_val hF hcl hB 70 rfl (.free rfl) rfl rfl (by kernel_rfl) rfl (fun w => (ex_pick_f rfl rfl rfl)) ?_; clear hF a hcl hB; intro a hF hcl hB
      refine dr_val hF hcl hB 71 rfl (.free rfl) rfl rfl (by kernel_rfl) rfl (fun w => (ex_assign rfl rfl)) ?_; clear hF a hcl hB; intro a hF hcl hB
      refine dr_done (by kernel_rfl) ?_; clear hcl hB
      refine then_normal ?_
      refine wp_ret ?_
      refine (fin1 hF rfl rfl ⟨_, rfl, ?_⟩)
      exact absurd ‹_› (by first | omega | exact not_not_intro eC)
    ·
     refine dr_off hF hcl hB 16 rfl (.on rfl rfl rfl rfl rfl) rfl rfl (by kernel_rfl) rfl ?_; clear hF a hcl hB; intro a hF hcl hB
     refine dr_off hF hcl hB 17 rfl (.on rfl rfl rfl rfl rfl) rfl rfl (by kernel_rfl) rfl ?_; clear hF a hcl hB; intro a hF hcl hB
     refine dr_off hF hcl hB 18 rfl (.on rfl rfl rfl rfl rfl) rfl rfl (by kernel_rfl) rfl ?_; clear hF a hcl hB; intro a hF hcl hB
     refine dr_off hF hcl hB 19 rfl (.on rfl rfl rfl rfl rfl) rfl rfl (by kernel_rfl) rfl ?_; clear hF a hcl hB; intro a hF hcl hB
     refine dr_val hF hcl hB 20 rfl (.free rfl) rfl rfl (by kernel_rfl) rfl (fun w => (ex_pick_f rfl rfl rfl)) ?_; clear hF a hcl hB; intro a hF hcl hB
     refine dr_val hF hcl hB 21 rfl (.free rfl) rfl rfl (by kernel_rfl) rfl (fun w => (ex_move rfl rfl)) ?_; clear hF a hcl hB; intro a hF hcl hB
     refine dr_off hF hcl hB 22 rfl (.on rfl rfl rfl rfl rfl) rfl rfl (by kernel_rfl) rfl ?_; clear hF a hcl hB; intro a hF hcl hB
     refine dr_off hF hcl hB 23 rfl (.on rfl rfl rfl rfl rfl) rfl rfl (by kernel_rfl) rfl ?_; clear hF a hcl hB; intro a hF hcl hB
     refine dr_off hF hcl hB 24 rfl (.on rfl rfl rfl rfl rfl) rfl rfl (by kernel_rfl) rfl ?_; clear hF a hcl hB; intro a hF hcl hB
     refine dr_off hF hcl hB 25 rfl (.on rfl rfl rfl rfl rfl) rfl rfl (by kernel_rfl) rfl ?_; clear hF a hcl hB; intro a hF hcl hB
     refine dr_off hF hcl hB 26 rfl (.on rfl rfl rfl rfl rfl) rfl rfl (by kernel_rfl) rfl ?_; clear hF a hcl hB; intro a hF hcl hB
     refine dr_off hF hcl hB 27 rfl (.on rfl rfl rfl rfl rfl) rfl rfl (by kernel_rfl) rfl ?_; clear hF a hcl hB; intro a hF hcl hB
     refine dr_off hF hcl hB 28 rfl (.on rfl rfl rfl rfl rfl) rfl rfl (by kernel_rfl) rfl ?_; clear hF a hcl hB; intro a hF hcl hB
     refine dr_val hF hcl hB 29 rfl (.free rfl) rfl rfl (by kernel_rfl) rfl (fun w => (ex_pick_f rfl rfl rfl)) ?_; clear hF a hcl hB; intro a hF hcl hB
     refine dr_val hF hcl hB 30 rfl (.free rfl) rfl rfl (by kernel_rfl) rfl (fun w => (ex_move rfl rfl)) ?_; clear hF a hcl hB; intro a hF hcl hB
     refine dr_off hF hcl hB 31 rfl (.on rfl rfl rfl rfl rfl) rfl rfl (by kernel_rfl) rfl ?_; clear hF a hcl hB; intro a hF hcl hB
     refine dr_off hF hcl hB 32 rfl (.on rfl rfl rfl rfl rfl) rfl rfl (by kernel_rfl) rfl ?_; clear hF a hcl hB; intro a hF hcl hB
     refine dr_off hF hcl hB 33 rfl (.on rfl rfl rfl rfl rfl) rfl rfl (by kernel_rfl) rfl ?_; clear hF a hcl hB; intro a hF hcl hB
     refine dr_off hF hcl hB 34 rfl (.on rfl rfl rfl rfl rfl) rfl rfl (by kernel_rfl) rfl ?_; clear hF a hcl hB; intro a hF hcl hB
     refine dr_off hF hcl hB 35 rfl (.on rfl rfl rfl rfl rfl) rfl rfl (by kernel_rfl) rfl ?_; clear hF a hcl hB; intro a hF hcl hB
     refine dr_off hF hcl hB 36 rfl (.on rfl rfl rfl rfl rfl) rfl rfl (by kernel_rfl) rfl ?_; clear hF a hcl hB; intro a hF hcl hB
     refine dr_off hF hcl hB 37 rfl (.on rfl rfl rfl rfl rfl) rfl rfl (by kernel_rfl) rfl ?_; clear hF a hcl hB; intro a hF hcl hB
     refine dr_val hF hcl hB 38 rfl (.free rfl) rfl rfl (by kernel_rfl) rfl (fun w => (ex_pick_f rfl rfl rfl)) ?_; clear hF a hcl hB; intro a hF hcl hB
     refine dr_val hF hcl hB 39 rfl (.free rfl) rfl rfl (by kernel_rfl) rfl (fun w => (ex_move rfl rfl)) ?_; clear hF a hcl hB; intro a hF hcl hB
     refine dr_off hF hcl hB 40 rfl (.on rfl rfl rfl rfl rfl) rfl rfl (by kernel_rfl) rfl ?_; clear hF a hcl hB; intro a hF hcl hB
     refine dr_off hF hcl hB 41 rfl (.on rfl rfl rfl rfl rfl) rfl rfl (by kernel_rfl) rfl ?_; clear hF a hcl hB; intro a hF hcl hB
     refine dr_off hF hcl hB 42 rfl (.on rfl rfl rfl rfl rfl) rfl rfl (by kernel_rfl) rfl ?_; clear hF a hcl hB; intro a hF hcl hB
     refine dr_off hF hcl hB 43 rfl (.on rfl rfl rfl rfl rfl) rfl rfl (by kernel_rfl) rfl ?_; clear hF a hcl hB; intro a hF hcl hB
     refine dr_val hF hcl hB 44 rfl (.free rfl) rfl rfl (by kernel_rfl) rfl (fun w => (ex_pick_f rfl rfl rfl)) ?_; clear hF a hcl hB; intro a hF hcl hB
     refine dr_val hF hcl hB 45 rfl (.free rfl) rfl rfl (by kernel_rfl) rfl (fun w => (ex_move rfl rfl)) ?_; clear hF a hcl hB; intro a hF hcl hB
     refine dr_off hF hcl hB 46 rfl (.on rfl rfl rfl rfl rfl) rfl rfl (by kernel_rfl) rfl ?_; clear hF a hcl hB; intro a hF hcl hB
     refine dr_off hF hcl hB 47 rfl (.on rfl rfl rfl rfl rfl) rfl rfl (by kernel_rfl) rfl ?_; clear hF a hcl hB; intro a hF hcl hB
     refine dr_off hF hcl hB 48 rfl (.on rfl rfl rfl rfl rfl) rfl rfl (by kernel_rfl) rfl ?_; clear hF a hcl hB; intro a hF hcl hB
     refine dr_off hF hcl hB 49 rfl (.on rfl rfl rfl rfl rfl) rfl rfl (by kernel_rfl) rfl ?_; clear hF a hcl hB; intro a hF hcl hB
     refine dr_off hF hcl hB 50 rfl (.on rfl rfl rfl rfl rfl) rfl rfl (by kernel_rfl) rfl ?_; clear hF a hcl hB; intro a hF hcl hB
     refine dr_off hF hcl hB 51 rfl (.on rfl rfl rfl rfl rfl) rfl rfl (by kernel_rfl) rfl ?_; clear hF a hcl hB; intro a hF hcl hB
     refine dr_off hF hcl hB 52 rfl (.on rfl rfl rfl rfl rfl) rfl rfl (by kernel_rfl) rfl ?_; clear hF a hcl hB; intro a hF hcl hB
     refine dr_off hF hcl hB 53 rfl (.on rfl rfl rfl rfl rfl) rfl rfl (by kernel_rfl) rfl ?_; clear hF a hcl hB; intro a hF hcl hB
     refine dr_off hF hcl hB 54 rfl (.on rfl rfl rfl rfl rfl) rfl rfl (by kernel_rfl) rfl ?_; clear hF a hcl hB; intro a hF hcl hB
     refine dr_val hF hcl hB 55 rfl (.free rfl) rfl rfl (by kernel_rfl) rfl (fun w => (ex_pick_f rfl rfl rfl)) ?_; clear hF a hcl hB; intro a hF hcl hB
     refine dr_val hF hcl hB 56 rfl (.free rfl) rfl rfl (by kernel_rfl) rfl (fun w => (ex_move rfl rfl)) ?_; clear hF a hcl hB; intro a hF hcl hB
     refine dr_off hF hcl hB 57 rfl (.on rfl rfl rfl rfl rfl) rfl rfl (by kernel_rfl) rfl ?_; clear hF a hcl hB; intro a hF hcl hB
     refine dr_off hF hcl hB 58 rfl (.on rfl rfl rfl rfl rfl) rfl rfl (by kernel_rfl) rfl ?_; clear hF a hcl hB; intro a hF hcl hB
     refine dr_off hF hcl hB 59 rfl (.on rfl rfl rfl rfl rfl) rfl rfl (by kernel_rfl) rfl ?_; clear hF a hcl hB; intro a hF hcl hB
     refine dr_off hF hcl hB 60 rfl (.on rfl rfl rfl rfl rfl) rfl rfl (by kernel_rfl) rfl ?_; clear hF a hcl hB; intro a hF hcl hB
     refine dr_off hF hcl hB 61 rfl (.on rfl rfl rfl rfl rfl) rfl rfl (by kernel_rfl) rfl ?_; clear hF a hcl hB; intro a hF hcl hB
     refine dr_off hF hcl hB 62 rfl (.on rfl rfl rfl rfl rfl) rfl rfl (by kernel_rfl) rfl ?_; clear hF a hcl hB; intro a hF hcl hB
     refine dr_off hF hcl hB 63 rfl (.on rfl rfl rfl rfl rfl) rfl rfl (by kernel_rfl) rfl ?_; clear hF a hcl hB; intro a hF hcl hB
     refine dr_off hF hcl hB 64 rfl (.on rfl rfl rfl rfl rfl) rfl rfl (by kernel_rfl) rfl ?_; clear hF a hcl hB; intro a hF hcl hB
     refine dr_val hF hcl hB 65 rfl (.free rfl) rfl rfl (by kernel_rfl) rfl (fun w => (ex_pick_f rfl rfl rfl)) ?_; clear hF a hcl hB; intro a hF hcl hB
     refine dr_val hF hcl hB 66 rfl (.free rfl) rfl rfl (by kernel_rfl) rfl (fun w => (ex_move rfl rfl)) ?_; clear hF a hcl hB; intro a hF hcl hB
     refine dr_off hF hcl hB 67 rfl (.on rfl rfl rfl rfl rfl) rfl rfl (by kernel_rfl) rfl ?_; clear hF a hcl hB; intro a hF hcl hB
     refine dr_off hF hcl hB 68 rfl (.on rfl rfl rfl rfl rfl) rfl rfl (by kernel_rfl) rfl ?_; clear hF a hcl hB; intro a hF hcl hB
     refine dr_off hF hcl hB 69 rfl (.on rfl rfl rfl rfl rfl) rfl rfl (by kernel_rfl) rfl ?_; clear hF a hcl hB; intro a hF hcl hB
     refine dr_val hF hcl hB 70 rfl (.free rfl) rfl rfl (by kernel_rfl) rfl (fun w => (ex_pick_f rfl rfl rfl)) ?_; clear hF a hcl hB; intro a hF hcl hB
     refine dr_val hF hcl hB 71 rfl (.free rfl) rfl rfl (by kernel_rfl) rfl (fun w => (ex_assign rfl rfl)) ?_; clear hF a hcl hB; intro a hF hcl hB
     refine dr_done (by kernel_rfl) ?_; clear hcl hB
     refine then_normal ?_
     refine wp_ret ?_
     refine (fin1 hF rfl rfl ⟨_, rfl, ?_⟩)
     exact absurd ‹_› (by first | omega | exact not_not_intro eC)
   ·
    refine dr_off hF hcl hB 8 rfl (.on rfl rfl rfl rfl rfl) rfl rfl (by kernel_rfl) rfl ?_; clear hF a hcl hB; intro a hF hcl hB
    refine dr_off hF hcl hB 9 rfl (.on rfl rfl rfl rfl rfl) rfl rfl (by kernel_rfl) rfl ?_; clear hF a hcl hB; intro a hF hcl hB
    refine dr_off hF hcl hB 10 rfl (.on rfl rfl rfl rfl rfl) rfl rfl (by kernel_rfl) rfl ?_; clear hF a hcl hB; intro a hF hcl hB
    refine dr_off hF hcl hB 11 rfl (.on rfl rfl rfl rfl rfl) rfl rfl (by kernel_rfl) rfl ?_; clear hF a hcl hB; intro a hF hcl hB
    refine dr_off hF hcl hB 12 rfl (.on rfl rfl rfl rfl rfl) rfl rfl (by kernel_rfl) rfl ?_; clear hF a hcl hB; intro a hF hcl hB
    refine dr_off hF hcl hB 13 rfl (.on rfl rfl rfl rfl rfl) rfl rfl (by kernel_rfl) rfl ?_; clear hF a hcl hB; intro a hF hcl hB
    refine dr_val hF hcl hB 14 rfl (.free rfl) rfl rfl (by kernel_rfl) rfl (fun w => (ex_pick_f rfl rfl rfl)) ?_; clear hF a hcl hB; intro a hF hcl hB
    refine dr_val hF hcl hB 15 rfl (.free rfl) rfl rfl (by kernel_rfl) rfl (fun w => (ex_move rfl rfl)) ?_; clear hF a hcl hB; intro a hF hcl hB
    refine dr_off hF hcl hB 16 rfl (.on rfl rfl rfl rfl rfl) rfl rfl (by kernel_rfl) rfl ?_; clear hF a hcl hB; intro a hF hcl hB
    refine dr_off hF hcl hB 17 rfl (.on rfl rfl rfl rfl rfl) rfl rfl (by kernel_rfl) rfl ?_; clear hF a hcl hB; intro a hF hcl hB
    refine dr_off hF hcl hB 18 rfl (.on rfl rfl rfl rfl rfl) rfl rfl (by kernel_rfl) rfl ?_; clear hF a hcl hB; intro a hF hcl hB
    refine dr_off hF hcl hB 19 rfl (.on rfl rfl rfl rfl rfl) rfl rfl (by kernel_rfl) rfl ?_; clear hF a hcl hB; intro a hF hcl hB
    refine dr_val hF hcl hB 20 rfl (.free rfl) rfl rfl (by kernel_rfl) rfl (fun w => (ex_pick_f rfl rfl rfl)) ?_; clear hF a hcl hB; intro a hF hcl hB
    refine dr_val hF hcl hB 21 rfl (.free rfl) rfl rfl (by kernel_rfl) rfl (fun w => (ex_move rfl rfl)) ?_; clear hF a hcl hB; intro a hF hcl hB
    refine dr_off hF hcl hB 22 rfl (.on rfl rfl rfl rfl rfl) rfl rfl (by kernel_rfl) rfl ?_; clear hF a hcl hB; intro a hF hcl hB
    refine dr_off hF hcl hB 23 rfl (.on rfl rfl rfl rfl rfl) rfl rfl (by kernel_rfl) rfl ?_; clear hF a hcl hB; intro a hF hcl hB
    refine dr_off hF hcl hB 24 rfl (.on rfl rfl rfl rfl rfl) rfl rfl (by kernel_rfl) rfl ?_; clear hF a hcl hB; intro a hF hcl hB
    refine dr_off hF hcl hB 25 rfl (.on rfl rfl rfl rfl rfl) rfl rfl (by kernel_rfl) rfl ?_; clear hF a hcl hB; intro a hF hcl hB
    refine dr_off hF hcl hB 26 rfl (.on rfl rfl rfl rfl rfl) rfl rfl (by kernel_rfl) rfl ?_; clear hF a hcl hB; intro a hF hcl hB
    refine dr_off hF hcl hB 27 rfl (.on rfl rfl rfl rfl rfl) rfl rfl (by kernel_rfl) rfl ?_; clear hF a hcl hB; intro a hF hcl hB
    refine dr_off hF hcl hB 28 rfl (.on rfl rfl rfl rfl rfl) rfl rfl (by kernel_rfl) rfl ?_; clear hF a hcl hB; intro a hF hcl hB
    refine dr_val hF hcl hB 29 rfl (.free rfl) rfl rfl (by kernel_rfl) rfl (fun w => (ex_pick_f rfl rfl rfl)) ?_; clear hF a hcl hB; intro a hF hcl hB
    refine dr_val hF hcl hB 30 rfl (.free rfl) rfl rfl (by kernel_rfl) rfl (fun w => (ex_move rfl rfl)) ?_; clear hF a hcl hB; intro a hF hcl hB
    refine dr_off hF hcl hB 31 rfl (.on rfl rfl rfl rfl rfl) rfl rfl (by kernel_rfl) rfl ?_; clear hF a hcl hB; intro a hF hcl hB
    refine dr_off hF hcl hB 32 rfl (.on rfl rfl rfl rfl rfl) rfl rfl (by kernel_rfl) rfl ?_; clear hF a hcl hB; intro a hF hcl hB
    refine dr_off hF hcl hB 33 rfl (.on rfl rfl rfl rfl rfl) rfl rfl (by kernel_rfl) rfl ?_; clear hF a hcl hB; intro a hF hcl hB
    refine dr_off hF hcl hB 34 rfl (.on rfl rfl rfl rfl rfl) rfl rfl (by kernel_rfl) rfl ?_; clear hF a hcl hB; intro a hF hcl hB
    refine dr_off hF hcl hB 35 rfl (.on rfl rfl rfl rfl rfl) rfl rfl (by kernel_rfl) rfl ?_; clear hF a hcl hB; intro a hF hcl hB
    refine dr_off hF hcl hB 36 rfl (.on rfl rfl rfl rfl rfl) rfl rfl (by kernel_rfl) rfl ?_; clear hF a hcl hB; intro a hF hcl hB
    refine dr_off hF hcl hB 37 rfl (.on rfl rfl rfl rfl rfl) rfl rfl (by kernel_rfl) rfl ?_; clear hF a hcl hB; intro a hF hcl hB
    refine dr_val hF hcl hB 38 rfl (.free rfl) rfl rfl (by kernel_rfl) rfl (fun w => (ex_pick_f rfl rfl rfl)) ?_; clear hF a hcl hB; intro a hF hcl hB
    refine dr_val hF hcl hB 39 rfl (.free rfl) rfl rfl (by kernel_rfl) rfl (fun w => (ex_move rfl rfl)) ?_; clear hF a hcl hB; intro a hF hcl hB
    refine dr_off hF hcl hB 40 rfl (.on rfl rfl rfl rfl rfl) rfl rfl (by kernel_rfl) rfl ?_; clear hF a hcl hB; intro a hF hcl hB
    refine dr_off hF hcl hB 41 rfl (.on rfl rfl rfl rfl rfl) rfl rfl (by kernel_rfl) rfl ?_; clear hF a hcl hB; intro a hF hcl hB
    refine dr_off hF hcl hB 42 rfl (.on rfl rfl rfl rfl rfl) rfl rfl (by kernel_rfl) rfl ?_; clear hF a hcl hB; intro a hF hcl hB
    refine dr_off hF hcl hB 43 rfl (.on rfl rfl rfl rfl rfl) rfl rfl (by kernel_rfl) rfl ?_; clear hF a hcl hB; intro a hF hcl hB
    refine dr_val hF hcl hB 44 rfl (.free rfl) rfl rfl (by kernel_rfl) rfl (fun w => (ex_pick_f rfl rfl rfl)) ?_; clear hF a hcl hB; intro a hF hcl hB
    refine dr_val hF hcl hB 45 rfl (.free rfl) rfl rfl (by kernel_rfl) rfl (fun w => (ex_move rfl rfl)) ?_; clear hF a hcl hB; intro a hF hcl hB
    refine dr_off hF hcl hB 46 rfl (.on rfl rfl rfl rfl rfl) rfl rfl (by kernel_rfl) rfl ?_; clear hF a hcl hB; intro a hF hcl hB
    refine dr_off hF hcl hB 47 rfl (.on rfl rfl rfl rfl rfl) rfl rfl (by kernel_rfl) rfl ?_; clear hF a hcl hB; intro a hF hcl hB
    refine dr_off hF hcl hB 48 rfl (.on rfl rfl rfl rfl rfl) rfl rfl (by kernel_rfl) rfl ?_; clear hF a hcl hB; intro a hF hcl hB
    refine dr_off hF hcl hB 49 rfl (.on rfl rfl rfl rfl rfl) rfl rfl (by kernel_rfl) rfl ?_; clear hF a hcl hB; intro a hF hcl hB
    refine dr_off hF hcl hB 50 rfl (.on rfl rfl rfl rfl rfl) rfl rfl (by kernel_rfl) rfl ?_; clear hF a hcl hB; intro a hF hcl hB
    refine dr_off hF hcl hB 51 rfl (.on rfl rfl rfl rfl rfl) rfl rfl (by kernel_rfl) rfl ?_; clear hF a hcl hB; intro a hF hcl hB
    refine dr_off hF hcl hB 52 rfl (.on rfl rfl rfl rfl rfl) rfl rfl (by kernel_rfl) rfl ?_; clear hF a hcl hB; intro a hF hcl hB
    refine dr_off hF hcl hB 53 rfl (.on rfl rfl rfl rfl rfl) rfl rfl (by kernel_rfl) rfl ?_; clear hF a hcl hB; intro a hF hcl hB
    refine dr_off hF hcl hB 54 rfl (.on rfl rfl rfl rfl rfl) rfl rfl (by kernel_rfl) rfl ?_; clear hF a hcl hB; intro a hF hcl hB
    refine dr_val hF hcl hB 55 rfl (.free rfl) rfl rfl (by kernel_rfl) rfl (fun w => (ex_pick_f rfl rfl rfl)) ?_; clear hF a hcl hB; intro a hF hcl hB
    refine dr_val hF hcl hB 56 rfl (.free rfl) rfl rfl (by kernel_rfl) rfl (fun w => (ex_move rfl rfl)) ?_; clear hF a hcl hB; intro a hF hcl hB
    refine dr_off hF hcl hB 57 rfl (.on rfl rfl rfl rfl rfl) rfl rfl (by kernel_rfl) rfl ?_; clear hF a hcl hB; intro a hF hcl hB
    refine dr_off hF hcl hB 58 rfl (.on rfl rfl rfl rfl rfl) rfl rfl (by kernel_rfl) rfl ?_; clear hF a hcl hB; intro a hF hcl hB
    refine dr_off hF hcl hB 59 rfl (.on rfl rfl rfl rfl rfl) rfl rfl (by kernel_rfl) rfl ?_; clear hF a hcl hB; intro a hF hcl hB
    refine dr_off hF hcl hB 60 rfl (.on rfl rfl rfl rfl rfl) rfl rfl (by kernel_rfl) rfl ?_; clear hF a hcl hB; intro a hF hcl hB
    refine dr_off hF hcl hB 61 rfl (.on rfl rfl rfl rfl rfl) rfl rfl (by kernel_rfl) rfl ?_; clear hF a hcl hB; intro a hF hcl hB
    refine dr_off hF hcl hB 62 rfl (.on rfl rfl rfl rfl rfl) rfl rfl (by kernel_rfl) rfl ?_; clear hF a hcl hB; intro a hF hcl hB
    refine dr_off hF hcl hB 63 rfl (.on rfl rfl rfl rfl rfl) rfl rfl (by kernel_rfl) rfl ?_; clear hF a hcl hB; intro a hF hcl hB
    refine dr_off hF hcl hB 64 rfl (.on rfl rfl rfl rfl rfl) rfl rfl (by kernel_rfl) rfl ?_; clear hF a hcl hB; intro a hF hcl hB
    refine dr_val hF hcl hB 65 rfl (.free rfl) rfl rfl (by kernel_rfl) rfl (fun w => (ex_pick_f rfl rfl rfl)) ?_; clear hF a hcl hB; intro a hF hcl hB
    refine dr_val hF hcl hB 66 rfl (.free rfl) rfl rfl (by kernel_rfl) rfl (fun w => (ex_move rfl rfl)) ?_; clear hF a hcl hB; intro a hF hcl hB
    refine dr_off hF hcl hB 67 rfl (.on rfl rfl rfl rfl rfl) rfl rfl (by kernel_rfl) rfl ?_; clear hF a hcl hB; intro a hF hcl hB
    refine dr_off hF hcl hB 68 rfl (.on rfl rfl rfl rfl rfl) rfl rfl (by kernel_rfl) rfl ?_; clear hF a hcl hB; intro a hF hcl hB
    refine dr_off hF hcl hB 69 rfl (.on rfl rfl rfl rfl rfl) rfl rfl (by kernel_rfl) rfl ?_; clear hF a hcl hB; intro a hF hcl hB
    refine dr_val hF hcl hB 70 rfl (.free rfl) rfl rfl (by kernel_rfl) rfl (fun w => (ex_pick_f rfl rfl rfl)) ?_; clear hF a hcl hB; intro a hF hcl hB
    refine dr_val hF hcl hB 71 rfl (.free rfl) rfl rfl (by kernel_rfl) rfl (fun w => (ex_assign rfl rfl)) ?_; clear hF a hcl hB; intro a hF hcl hB
    refine dr_done (by kernel_rfl) ?_; clear hcl hB
    refine then_normal ?_
    refine wp_ret ?_
    refine (fin1 hF rfl rfl ⟨_, rfl, ?_⟩)
    exact absurd ‹_› (by first | omega | exact not_not_intro eC)
  ·
   refine dr_off hF hcl hB 3 rfl (.on rfl rfl rfl rfl rfl) rfl rfl (by kernel_rfl) rfl ?_; clear hF a hcl hB; intro a hF hcl hB
   refine dr_off hF hcl hB 4 rfl (.on rfl rfl rfl rfl rfl) rfl rfl (by kernel_rfl) rfl ?_; clear hF a hcl hB; intro a hF hcl hB
   refine dr_off hF hcl hB 5 rfl (.on rfl rfl rfl rfl rfl) rfl rfl (by kernel_rfl) rfl ?_; clear hF a hcl hB; intro a hF hcl hB
   refine dr_val hF hcl hB 6 rfl (.free rfl) rfl rfl (by kernel_rfl) rfl (fun w => (ex_pick_f rfl rfl rfl)) ?_; clear hF a hcl hB; intro a hF hcl hB
   refine dr_val hF hcl hB 7 rfl (.free rfl) rfl rfl (by kernel_rfl) rfl (fun w => (ex_move rfl rfl)) ?_; clear hF a hcl hB; intro a hF hcl hB
   refine dr_off hF hcl hB 8 rfl (.on rfl rfl rfl rfl rfl) rfl rfl (by kernel_rfl) rfl ?_; clear hF a hcl hB; intro a hF hcl hB
   refine dr_off hF hcl hB 9 rfl (.on rfl rfl rfl rfl rfl) rfl rfl (by kernel_rfl) rfl ?_; clear hF a hcl hB; intro a hF hcl hB
   refine dr_off hF hcl hB 10 rfl (.on rfl rfl rfl rfl rfl) rfl rfl (by kernel_rfl) rfl ?_; clear hF a hcl hB; intro a hF hcl hB
   refine dr_off hF hcl hB 11 rfl (.on rfl rfl rfl rfl rfl) rfl rfl (by kernel_rfl) rfl ?_; clear hF a hcl hB; intro a hF hcl hB
   refine dr_off hF hcl hB 12 rfl (.on rfl rfl rfl rfl rfl) rfl rfl (by kernel_rfl) rfl ?_; clear hF a hcl hB; intro a hF hcl hB
   refine dr_off hF hcl hB 13 rfl (.on rfl rfl rfl rfl rfl) rfl rfl (by kernel_rfl) rfl ?_; clear hF a hcl hB; intro a hF hcl hB
   refine dr_val hF hcl hB 14 rfl (.free rfl) rfl rfl (by kernel_rfl) rfl (fun w => (ex_pick_f rfl rfl rfl)) ?_; clear hF a hcl hB; intro a hF hcl hB
   refine dr_val hF hcl hB 15 rfl (.free rfl) rfl rfl (by kernel_rfl) rfl (fun w => (ex_move rfl rfl)) ?_; clear hF a hcl hB; intro a hF hcl hB
   refine dr_off hF hcl hB 16 rfl (.on rfl rfl rfl rfl rfl) rfl rfl (by kernel_rfl) rfl ?_; clear hF a hcl hB; intro a hF hcl hB
   refine dr_off hF hcl hB 17 rfl (.on rfl rfl rfl rfl rfl) rfl rfl (by kernel_rfl) rfl ?_; clear hF a hcl hB; intro a hF hcl hB
   refine dr_off hF hcl hB 18 rfl (.on rfl rfl rfl rfl rfl) rfl rfl (by kernel_rfl) rfl ?_; clear hF a hcl hB; intro a hF hcl hB
   refine dr_off hF hcl hB 19 rfl (.on rfl rfl rfl rfl rfl) rfl rfl (by kernel_rfl) rfl ?_; clear hF a hcl hB; intro a hF hcl hB
   refine dr_val hF hcl hB 20 rfl (.free rfl) rfl rfl (by kernel_rfl) rfl (fun w => (ex_pick_f rfl rfl rfl)) ?_; clear hF a hcl hB; intro a hF hcl hB
   refine dr_val hF hcl hB 21 rfl (.free rfl) rfl rfl (by kernel_rfl) rfl (fun w => (ex_move rfl rfl)) ?_; clear hF a hcl hB; intro a hF hcl hB
   refine dr_off hF hcl hB 22 rfl (.on rfl rfl rfl rfl rfl) rfl rfl (by kernel_rfl) rfl ?_; clear hF a hcl hB; intro a hF hcl hB
   refine dr_off hF hcl hB 23 rfl (.on rfl rfl rfl rfl rfl) rfl rfl (by kernel_rfl) rfl ?_; clear hF a hcl hB; intro a hF hcl hB
   refine dr_off hF hcl hB 24 rfl (.on rfl rfl rfl rfl rfl) rfl rfl (by kernel_rfl) rfl ?_; clear hF a hcl hB; intro a hF hcl hB
   refine dr_off hF hcl hB 25 rfl (.on rfl rfl rfl rfl rfl) rfl rfl (by kernel_rfl) rfl ?_; clear hF a hcl hB; intro a hF hcl hB
   refine dr_off hF hcl hB 26 rfl (.on rfl rfl rfl rfl rfl) rfl rfl (by kernel_rfl) rfl ?_; clear hF a hcl hB; intro a hF hcl hB
   refine dr_off hF hcl hB 27 rfl (.on rfl rfl rfl rfl rfl) rfl rfl (by kernel_rfl) rfl ?_; clear hF a hcl hB; intro a hF hcl hB
   refine dr_off hF hcl hB 28 rfl (.on rfl rfl rfl rfl rfl) rfl rfl (by kernel_rfl) rfl ?_; clear hF a hcl hB; intro a hF hcl hB
   refine dr_val hF hcl hB 29 rfl (.free rfl) rfl rfl (by kernel_rfl) rfl (fun w => (ex_pick_f rfl rfl rfl)) ?_; clear hF a hcl hB; intro a hF hcl hB
   refine dr_val hF hcl hB 30 rfl (.free rfl) rfl rfl (by kernel_rfl) rfl (fun w => (ex_move rfl rfl)) ?_; clear hF a hcl hB; intro a hF hcl hB
   refine dr_off hF hcl hB 31 rfl (.on rfl rfl rfl rfl rfl) rfl rfl (by kernel_rfl) rfl ?_; clear hF a hcl hB; intro a hF hcl hB
   refine dr_off hF hcl hB 32 rfl (.on rfl rfl rfl rfl rfl) rfl rfl (by kernel_rfl) rfl ?_; clear hF a hcl hB; intro a hF hcl hB
   refine dr_off hF hcl hB 33 rfl (.on rfl rfl rfl rfl rfl) rfl rfl (by kernel_rfl) rfl ?_; clear hF a hcl hB; intro a hF hcl hB
   refine dr_off hF hcl hB 34 rfl (.on rfl rfl rfl rfl rfl) rfl rfl (by kernel_rfl) rfl ?_; clear hF a hcl hB; intro a hF hcl hB
   refine dr_off hF hcl hB 35 rfl (.on rfl rfl rfl rfl rfl) rfl rfl (by kernel_rfl) rfl ?_; clear hF a hcl hB; intro a hF hcl hB
   refine dr_off hF hcl hB 36 rfl (.on rfl rfl rfl rfl rfl) rfl rfl (by kernel_rfl) rfl ?_; clear hF a hcl hB; intro a hF hcl hB
   refine dr_off hF hcl hB 37 rfl (.on rfl rfl rfl rfl rfl) rfl rfl (by kernel_rfl) rfl ?_; clear hF a hcl hB; intro a hF hcl hB
   refine dr_val hF hcl hB 38 rfl (.free rfl) rfl rfl (by kernel_rfl) rfl (fun w => (ex_pick_f rfl rfl rfl)) ?_; clear hF a hcl hB; intro a hF hcl hB
   refine dr_val hF hcl hB 39 rfl (.free rfl) rfl rfl (by kernel_rfl) rfl (fun w => (ex_move rfl rfl)) ?_; clear hF a hcl hB; intro a hF hcl hB
   refine dr_off hF hcl hB 40 rfl (.on rfl rfl rfl rfl rfl) rfl rfl (by kernel_rfl) rfl ?_; clear hF a hcl hB; intro a hF hcl hB
   refine dr_off hF hcl hB 41 rfl (.on rfl rfl rfl rfl rfl) rfl rfl (by kernel_rfl) rfl ?_; clear hF a hcl hB; intro a hF hcl hB
   refine dr_off hF hcl hB 42 rfl (.on rfl rfl rfl rfl rfl) rfl rfl (by kernel_rfl) rfl ?_; clear hF a hcl hB; intro a hF hcl hB
   refine dr_off hF hcl hB 43 rfl (.on rfl rfl rfl rfl rfl) rfl rfl (by kernel_rfl) rfl ?_; clear hF a hcl hB; intro a hF hcl hB
   refine dr_val hF hcl hB 44 rfl (.free rfl) rfl rfl (by kernel_rfl) rfl (fun w => (ex_pick_f rfl rfl rfl)) ?_; clear hF a hcl hB; intro a hF hcl hB
   refine dr_val hF hcl hB 45 rfl (.free rfl) rfl rfl (by kernel_rfl) rfl (fun w => (ex_move rfl rfl)) ?_; clear hF a hcl hB; intro a hF hcl hB
   refine dr_off hF hcl hB 46 rfl (.on rfl rfl rfl rfl rfl) rfl rfl (by kernel_rfl) rfl ?_; clear hF a hcl hB; intro a hF hcl hB
   refine dr_off hF hcl hB 47 rfl (.on rfl rfl rfl rfl rfl) rfl rfl (by kernel_rfl) rfl ?_; clear hF a hcl hB; intro a hF hcl hB
   refine dr_off hF hcl hB 48 rfl (.on rfl rfl rfl rfl rfl) rfl rfl (by kernel_rfl) rfl ?_; clear hF a hcl hB; intro a hF hcl hB
   refine dr_off hF hcl hB 49 rfl (.on rfl rfl rfl rfl rfl) rfl rfl (by kernel_rfl) rfl ?_; clear hF a hcl hB; intro a hF hcl hB
   refine dr_off hF hcl hB 50 rfl (.on rfl rfl rfl rfl rfl) rfl rfl (by kernel_rfl) rfl ?_; clear hF a hcl hB; intro a hF hcl hB
   refine dr_off hF hcl hB 51 rfl (.on rfl rfl rfl rfl rfl) rfl rfl (by kernel_rfl) rfl ?_; clear hF a hcl hB; intro a hF hcl hB
   refine dr_off hF hcl hB 52 rfl (.on rfl rfl rfl rfl rfl) rfl rfl (by kernel_rfl) rfl ?_; clear hF a hcl hB; intro a hF hcl hB
   refine dr_off hF hcl hB 53 rfl (.on rfl rfl rfl rfl rfl) rfl rfl (by kernel_rfl) rfl ?_; clear hF a hcl hB; intro a hF hcl hB
   refine dr_off hF hcl hB 54 rfl (.on rfl rfl rfl rfl rfl) rfl rfl (by kernel_rfl) rfl ?_; clear hF a hcl hB; intro a hF hcl hB
   refine dr_val hF hcl hB 55 rfl (.free rfl) rfl rfl (by kernel_rfl) rfl (fun w => (ex_pick_f rfl rfl rfl)) ?_; clear hF a hcl hB; intro a hF hcl hB
   refine dr_val hF hcl hB 56 rfl (.free rfl) rfl rfl (by kernel_rfl) rfl (fun w => (ex_move rfl rfl)) ?_; clear hF a hcl hB; intro a hF hcl hB
   refine dr_off hF hcl hB 57 rfl (.on rfl rfl rfl rfl rfl) rfl rfl (by kernel_rfl) rfl ?_; clear hF a hcl hB; intro a hF hcl hB
   refine dr_off hF hcl hB 58 rfl (.on rfl rfl rfl rfl rfl) rfl rfl (by kernel_rfl) rfl ?_; clear hF a hcl hB; intro a hF hcl hB
   refine dr_off hF hcl hB 59 rfl (.on rfl rfl rfl rfl rfl) rfl rfl (by kernel_rfl) rfl ?_; clear hF a hcl hB; intro a hF hcl hB
   refine dr_off hF hcl hB 60 rfl (.on rfl rfl rfl rfl rfl) rfl rfl (by kernel_rfl) rfl ?_; clear hF a hcl hB; intro a hF hcl hB
   refine dr_off hF hcl hB 61 rfl (.on rfl rfl rfl rfl rfl) rfl rfl (by kernel_rfl) rfl ?_; clear hF a hcl hB; intro a hF hcl hB
   refine dr_off hF hcl hB 62 rfl (.on rfl rfl rfl rfl rfl) rfl rfl (by kernel_rfl) rfl ?_; clear hF a hcl hB; intro a hF hcl hB
   refine dr_off hF hcl hB 63 rfl (.on rfl rfl rfl rfl rfl) rfl rfl (by kernel_rfl) rfl ?_; clear hF a hcl hB; intro a hF hcl hB
   refine dr_off hF hcl hB 64 rfl (.on rfl rfl rfl rfl rfl) rfl rfl (by kernel_rfl) rfl ?_; clear hF a hcl hB; intro a hF hcl hB
   refine dr_val hF hcl hB 65 rfl (.free rfl) rfl rfl (by kernel_rfl) rfl (fun w => (ex_pick_f rfl rfl rfl)) ?_; clear hF a hcl hB; intro a hF hcl hB
   refine dr_val hF hcl hB 66 rfl (.free rfl) rfl rfl (by kernel_rfl) rfl (fun w => (ex_move rfl rfl)) ?_; clear hF a hcl hB; intro a hF hcl hB
   refine dr_off hF hcl hB 67 rfl (.on rfl rfl rfl rfl rfl) rfl rfl (by kernel_rfl) rfl ?_; clear hF a hcl hB; intro a hF hcl hB
   refine dr_off hF hcl hB 68 rfl (.on rfl rfl rfl rfl rfl) rfl rfl (by kernel_rfl) rfl ?_; clear hF a hcl hB; intro a hF hcl hB
   refine dr_off hF hcl hB 69 rfl (.on rfl rfl rfl rfl rfl) rfl rfl (by kernel_rfl) rfl ?_; clear hF a hcl hB; intro a hF hcl hB
   refine dr_val hF hcl hB 70 rfl (.free rfl) rfl rfl (by kernel_rfl) rfl (fun w => (ex_pick_f rfl rfl rfl)) ?_; clear hF a hcl hB; intro a hF hcl hB
   refine dr_val hF hcl hB 71 rfl (.free rfl) rfl rfl (by kernel_rfl) rfl (fun w => (ex_assign rfl rfl)) ?_; clear hF a hcl hB; intro a hF hcl hB
   refine dr_done (by kernel_rfl) ?_; clear hcl hB
   refine then_normal ?_
   refine wp_ret ?_
   refine (fin1 hF rfl rfl ⟨_, rfl, ?_⟩)
   exact absurd ‹_› (by first | omega | exact not_not_intro eC)

end Go.Proofs.Ytakgjpmhbfieeaa
