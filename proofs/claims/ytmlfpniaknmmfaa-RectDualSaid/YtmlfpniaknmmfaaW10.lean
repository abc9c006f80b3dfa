/- The walks of the statements RectBest and RectLeast. -/
import Derived.Test.YtmlfpniaknmmfaaW9
import Derived.Laws.StructEq
import Derived.Laws.Tables
namespace Go.Proofs.Ytmlfpniaknmmfaa
open Go Go.RowKit Go.Proofs.Gw
set_option linter.unusedVariables false

theorem cl_17 : calledT Try.prog 17 = true := by kernel_rfl
theorem eq34 (a b : Int) (w : World) : (Op.equalIn 9999 34 (.agg #[.int .i64 a, .int .i64 b]) (.agg #[.int .i64 a, .int .i64 b])).run Try.prog w = .ok true w := by
  rw [show (9999 : Nat) = 9998 + 1 from rfl, run_equalIn_agg w 9998 34 _ _ (by kernel_rfl) (by kernel_rfl)]
  simp only [Program.fieldsOf, Try.underlying34]
  have u3 := Try.underlying3
  have a3 := Try.isAgg3
  have z3 := Try.sizeOf3
  simp [Op.eqFields, part, a3, z3, run_equalIn_int, u3]
theorem eq36 (a b c d : Int) (w : World) : (Op.equalIn 10000 36 (.agg #[.int .i64 a, .int .i64 b, .int .i64 c, .int .i64 d]) (.agg #[.int .i64 a, .int .i64 b, .int .i64 c, .int .i64 d])).run Try.prog w = .ok true w := by
  rw [show (10000 : Nat) = 9999 + 1 from rfl, run_equalIn_agg w 9999 36 _ _ (by kernel_rfl) (by kernel_rfl)]
  simp only [Program.fieldsOf, Try.underlying36]
  have a34 := Try.isAgg34
  have z34 := Try.sizeOf34
  simp [Op.eqFields, part, a34, z34, eq34]
theorem ex_eqs36 {L : List (Nat × Value)} {w : World} {o : Oper} {x y : Operand} {T' : TypeId} {a b c d a' b' c' d' : Int} (ho : o.op = .binOp .eql 36 x y T') (hx : evL L x = some (.agg #[.int .i64 a, .int .i64 b, .int .i64 c, .int .i64 d])) (hy : evL L y = some (.agg #[.int .i64 a', .int .i64 b', .int .i64 c', .int .i64 d']))
    (e1 : a = a') (e2 : b = b') (e3 : c = c') (e4 : d = d') : Runs Try.prog L w o (.value (.bool true)) w := fun ρ h => by
  subst e1; subst e2; subst e3; subst e4
  have hm : Try.prog.eqGuardType Try.prog.depth 36 = false := by kernel_rfl
  simp only [execOp, ho, h _ _ hx, h _ _ hy, Sem.run_bind, run_eqGuard_agg w .eql 36 x y _ _ hm, run_eql_struct, eq36, Result.andThen_ok]
  rfl

set_option maxRecDepth 20000 in
theorem law_best {vD : Value} {d : Dem} {s : Sht} (w0 : World) (hD : DAt w0 vD d.n d.W d.H d.N) (hs : (-9223372036854775808 ≤ s.w ∧ s.w ≤ 9223372036854775807) ∧ (-9223372036854775808 ≤ s.h ∧ s.h ≤ 9223372036854775807) ∧ (-9223372036854775808 ≤ s.kf ∧ s.kf ≤ 9223372036854775807)) :
    Calls Try.prog 4 [.agg #[vD, .int .i64 s.w, .int .i64 s.h, .int .i64 s.kf]].toArray w0 fun e w => ∃ v, e = .returned v ∧ v = .bool true ∧ Sat w0 w [] := by
  have hn := hD.row.slh.n0
  refine enterS (vs := [.agg #[vD, .int .i64 s.w, .int .i64 s.h, .int .i64 s.kf]]) Try.func4 rfl Try.ntmps4 rfl ?_
  intro a w hS hF
  refine cw_seq ?_
  refine wp_region_lit ?_
  refine ls_any hF (.free rfl) rfl rfl (ex_box (cs := [vD, .int .i64 s.w, .int .i64 s.h, .int .i64 s.kf]) rfl hS rfl rfl) ?_; clear hF; rintro _ w ⟨g1, rfl, hS⟩ a hF
  replace hS : Sat w0 w [.blk g1 [vD, .int .i64 s.w, .int .i64 s.h, .int .i64 s.kf]] := hS
  refine ls_val hF (.free rfl) rfl rfl (ex_assign rfl rfl) ?_; clear hF a; intro a hF
  refine ls_nil ?_
  refine then_normal ?_
  refine cw_seq ?_
  refine cw_seq ?_
  refine wp_region_lit ?_
  refine ls_call hF (.free rfl) rfl rfl (ex_call0 rfl rfl cl_10 args0) (c_awake w) ?_; clear hF; rintro _ w ⟨rfl, hS'⟩ a hF
  replace hS : Sat w0 w [.blk g1 [vD, .int .i64 s.w, .int .i64 s.h, .int .i64 s.kf]] := hS.comp hS'; clear hS'
  refine ls_val hF (.free rfl) rfl rfl (ex_not_t rfl rfl) ?_; clear hF a; intro a hF
  refine ls_nil ?_
  refine then_normal ?_
  refine cw_f hF rfl ?_
  refine wp_skip ?_
  refine then_normal ?_
  refine cw_seq ?_
  refine cw_seq ?_
  refine wp_region_lit ?_
  refine ls_val hF (.free rfl) rfl rfl (ex_field (b := ⟨g1, 0, none⟩) rfl fd_24_0 rfl rfl) ?_; clear hF a; intro a hF
  refine ls_val hF (.free rfl) rfl rfl (ex_load_blk 0 rfl pl_22 rfl hS rfl rfl) ?_; clear hF a; intro a hF
  refine ls_call hF (.free rfl) rfl rfl (ex_call0 rfl rfl cl_11 (args_cons rfl args0)) (c_few (d := d) w (hD.below hS.below)) ?_; clear hF; rintro _ w ⟨rfl, hS'⟩ a hF
  replace hS : Sat w0 w [.blk g1 [vD, .int .i64 s.w, .int .i64 s.h, .int .i64 s.kf]] := hS.comp hS'; clear hS'
  refine ls_val hF (.free rfl) rfl rfl (ex_not rfl rfl) ?_; clear hF a; intro a hF
  refine ls_nil ?_
  refine then_normal ?_
  refine cw_if hF rfl (fun hc => ?_) (fun hc => ?_)
  ·
   refine cw_seq ?_
   refine wp_region_lit ?_
   refine ls_val hF (.free rfl) rfl rfl (ex_assign rfl rfl) ?_; clear hF a; intro a hF
   refine ls_nil ?_
   refine then_normal ?_
   refine wp_ret ?_
   refine then_ret ((fin1 hF rfl rfl ⟨_, rfl, ?_⟩))
   exact ⟨rfl, hS.sub (.cons _ .slnil)⟩
  ·
   refine wp_skip ?_
   refine then_normal ?_
   refine cw_seq ?_
   refine dr_sat (m0 := [.blk g1 [vD, .int .i64 s.w, .int .i64 s.h, .int .i64 s.kf]]) (m1 := [.blk g1 [vD, .int .i64 s.w, .int .i64 s.h, .int .i64 s.kf]]) 16 mx_ hS (.cons_cons _ .slnil) (.cons_cons _ .slnil) rfl ?_; clear hS; intro w hS hcl hB
   refine dr_val hF hcl hB 0 rfl (.free rfl) rfl rfl (by kernel_rfl) rfl (fun w => (ex_field (b := ⟨g1, 0, none⟩) rfl fd_24_0 rfl rfl)) ?_; clear hF a hcl hB; intro a hF hcl hB
   refine dr_loadA hF hcl hB 1 rfl (.free rfl) rfl rfl (by kernel_rfl) rfl (fun w hS => (ex_load_blk 0 rfl pl_22 rfl hS rfl rfl)) ?_; clear hF a hcl hB; intro a hF hcl hB
   refine dr_val hF hcl hB 3 rfl (.free rfl) rfl rfl (by kernel_rfl) rfl (fun w => (ex_field (b := ⟨g1, 1, none⟩) rfl fd_24_1 rfl rfl)) ?_; clear hF a hcl hB; intro a hF hcl hB
   refine dr_loadA hF hcl hB 4 rfl (.free rfl) rfl rfl (by kernel_rfl) rfl (fun w hS => (ex_load_blk 0 rfl pl_3 rfl hS rfl rfl)) ?_; clear hF a hcl hB; intro a hF hcl hB
   refine dr_val hF hcl hB 5 rfl (.free rfl) rfl rfl (by kernel_rfl) rfl (fun w => (ex_field (b := ⟨g1, 2, none⟩) rfl fd_24_2 rfl rfl)) ?_; clear hF a hcl hB; intro a hF hcl hB
   refine dr_loadA hF hcl hB 6 rfl (.free rfl) rfl rfl (by kernel_rfl) rfl (fun w hS => (ex_load_blk 0 rfl pl_3 rfl hS rfl rfl)) ?_; clear hF a hcl hB; intro a hF hcl hB
   refine dr_val hF hcl hB 7 rfl (.free rfl) rfl rfl (by kernel_rfl) rfl (fun w => (ex_field (b := ⟨g1, 3, none⟩) rfl fd_24_3 rfl rfl)) ?_; clear hF a hcl hB; intro a hF hcl hB
   refine dr_loadA hF hcl hB 8 rfl (.free rfl) rfl rfl (by kernel_rfl) rfl (fun w hS => (ex_load_blk 0 rfl pl_3 rfl hS rfl rfl)) ?_; clear hF a hcl hB; intro a hF hcl hB
   refine dr_fork (r := [2, 14]) hcl (by decide) (by kernel_rfl) ((fk_cons ?_ (fk_cons ?_ fk_nil)))
   ·
    refine fk_call hF 2 rfl (.free rfl) rfl rfl (ex_call0 rfl rfl cl_14 (args_cons rfl args0)) (c_own (d := d) w (hD.below hS.below) (by omega)) ?_; clear hF hB; rintro vo1 w ⟨_, rfl, hslo1, hS'⟩ a hF hcl
    replace hS : Sat w0 w [.blk g1 [vD, .int .i64 s.w, .int .i64 s.h, .int .i64 s.kf], .own vo1 3 60 d.n (dcells d.W d.H d.N)] := hS.comp hS'; clear hS'
    refine ⟨⟨(fun _ => hS.sub (.cons_cons _ (.cons _ .slnil))), hS.sub (.cons_cons _ (.cons _ .slnil))⟩, fun hB => ?_⟩
    refine dr_fork (r := [9, 14]) hcl (by decide) (by kernel_rfl) ((fk_cons ?_ (fk_cons ?_ fk_nil)))
    ·
     refine fk_call hF 9 rfl (.free rfl) rfl rfl (ex_call0 rfl rfl cl_16 (args_cons rfl (args_cons rfl (args_cons rfl (args_cons rfl args0))))) (c_Best (d := d) (s := s) w (⟨(hS.rowN 1 rfl), hD.bw, hD.bh, hD.bn⟩ : DAt _ _ d.n d.W d.H d.N) hs) ?_; clear hF hB; rintro _ w ⟨ab1, fab1, fpb1, fbb1, fqb1, eb1, rfl, hrb1, hS'⟩ a hF hcl
     replace hS : Sat w0 w [.blk g1 [vD, .int .i64 s.w, .int .i64 s.h, .int .i64 s.kf], .own vo1 3 60 d.n (dcells d.W d.H d.N)] := hS.comp hS'; clear hS'
     refine ⟨⟨(fun _ => hS.sub (.cons_cons _ (.cons _ .slnil))), hS.sub (.cons_cons _ (.cons _ .slnil))⟩, fun hB => ?_⟩
     refine dr_val hF hcl hB 10 rfl (.free rfl) rfl rfl (by kernel_rfl) rfl (fun w => (ex_move rfl rfl)) ?_; clear hF a hcl hB; intro a hF hcl hB
     refine dr_val hF hcl hB 11 rfl (.free rfl) rfl rfl (by kernel_rfl) rfl (fun w => (ex_extract rfl rfl rfl)) ?_; clear hF a hcl hB; intro a hF hcl hB
     refine dr_val hF hcl hB 12 rfl (.free rfl) rfl rfl (by kernel_rfl) rfl (fun w => (ex_extract rfl rfl rfl)) ?_; clear hF a hcl hB; intro a hF hcl hB
     refine dr_val hF hcl hB 13 rfl (.free rfl) rfl rfl (by kernel_rfl) rfl (fun w => (ex_extract rfl rfl rfl)) ?_; clear hF a hcl hB; intro a hF hcl hB
     refine dr_any hF hcl 14 rfl (.free rfl) rfl rfl (by kernel_rfl) (ex_alloc (cs := [.int .i64 0, .int .i64 0, .int .i64 0, .int .i64 0]) rfl el_36 hS rfl) ?_; clear hF hB; rintro _ w ⟨g2, rfl, hS⟩ a hF hcl
     replace hS : Sat w0 w [.blk g1 [vD, .int .i64 s.w, .int .i64 s.h, .int .i64 s.kf], .own vo1 3 60 d.n (dcells d.W d.H d.N), .blk g2 [.int .i64 0, .int .i64 0, .int .i64 0, .int .i64 0]] := hS
     refine ⟨⟨(fun _ => hS.sub (.cons_cons _ (.cons _ (.cons _ .slnil)))), hS.sub (.cons_cons _ (.cons _ (.cons _ .slnil)))⟩, fun hB => ?_⟩
     refine dr_val hF hcl hB 15 rfl (.free rfl) rfl rfl (by kernel_rfl) rfl (fun w => (ex_assign rfl rfl)) ?_; clear hF a hcl hB; intro a hF hcl hB
     refine dr_effx hF hcl 16 rfl (.free rfl) rfl (by kernel_rfl) (st_blks 2 (ds := [.int .i64 fab1, .int .i64 fpb1, .int .i64 fbb1, .int .i64 fqb1]) rfl st_36 hS rfl rfl rfl rfl (ones_cons rfl (ones_cons rfl (ones_cons rfl (ones_cons rfl ones_nil))))) ?_; clear hS hB; rintro w hS hcl
     replace hS : Sat w0 w [.blk g1 [vD, .int .i64 s.w, .int .i64 s.h, .int .i64 s.kf], .own vo1 3 60 d.n (dcells d.W d.H d.N), .blk g2 [.int .i64 fab1, .int .i64 fpb1, .int .i64 fbb1, .int .i64 fqb1]] := hS
     refine ⟨⟨(fun h => absurd h (by decide)), hS.sub (.cons_cons _ (.cons _ (.cons _ .slnil)))⟩, fun hB => ?_⟩
     refine dr_val hF hcl hB 17 rfl (.free rfl) rfl rfl (by kernel_rfl) rfl (fun w => (ex_assign rfl rfl)) ?_; clear hF a hcl hB; intro a hF hcl hB
     refine dr_done (by kernel_rfl) ?_; clear hcl hB
     refine then_normal ?_
     refine cw_seq ?_
     refine wp_region_lit ?_
     refine ls_val hF (.free rfl) rfl rfl (ex_field (b := ⟨g1, 0, none⟩) rfl fd_24_0 rfl rfl) ?_; clear hF a; intro a hF
     refine ls_val hF (.free rfl) rfl rfl (ex_load_blk 0 rfl pl_22 rfl hS rfl rfl) ?_; clear hF a; intro a hF
     refine ls_val hF (.free rfl) rfl rfl (ex_field (b := ⟨g1, 1, none⟩) rfl fd_24_1 rfl rfl) ?_; clear hF a; intro a hF
     refine ls_val hF (.free rfl) rfl rfl (ex_load_blk 0 rfl pl_3 rfl hS rfl rfl) ?_; clear hF a; intro a hF
     refine ls_val hF (.free rfl) rfl rfl (ex_field (b := ⟨g1, 2, none⟩) rfl fd_24_2 rfl rfl) ?_; clear hF a; intro a hF
     refine ls_val hF (.free rfl) rfl rfl (ex_load_blk 0 rfl pl_3 rfl hS rfl rfl) ?_; clear hF a; intro a hF
     refine ls_val hF (.free rfl) rfl rfl (ex_field (b := ⟨g1, 3, none⟩) rfl fd_24_3 rfl rfl) ?_; clear hF a; intro a hF
     refine ls_val hF (.free rfl) rfl rfl (ex_load_blk 0 rfl pl_3 rfl hS rfl rfl) ?_; clear hF a; intro a hF
     refine ls_call hF (.free rfl) rfl rfl (ex_call0 rfl rfl cl_17 (args_cons rfl (args_cons rfl (args_cons rfl (args_cons rfl args0))))) (c_rBest (d := d) (s := s) w (hD.below hS.below) hs) ?_; clear hF; rintro _ w ⟨ab2, fab2, fpb2, fbb2, fqb2, eb2, rfl, hrb2, hS'⟩ a hF
     replace hS : Sat w0 w [.blk g1 [vD, .int .i64 s.w, .int .i64 s.h, .int .i64 s.kf], .own vo1 3 60 d.n (dcells d.W d.H d.N), .blk g2 [.int .i64 fab1, .int .i64 fpb1, .int .i64 fbb1, .int .i64 fqb1]] := hS.comp hS'; clear hS'
     obtain ⟨hs1, hs2, hs3, hs4⟩ := BestR.same hrb1 hrb2
     have hs5 := (Prod.mk.inj hs3).1; have hs6 := (Prod.mk.inj hs3).2; have hs7 := (Prod.mk.inj hs4).1; have hs8 := (Prod.mk.inj hs4).2
     refine ls_val hF (.free rfl) rfl rfl (ex_move rfl rfl) ?_; clear hF a; intro a hF
     refine ls_val hF (.free rfl) rfl rfl (ex_extract rfl rfl rfl) ?_; clear hF a; intro a hF
     refine ls_val hF (.free rfl) rfl rfl (ex_extract rfl rfl rfl) ?_; clear hF a; intro a hF
     refine ls_val hF (.free rfl) rfl rfl (ex_extract rfl rfl rfl) ?_; clear hF a; intro a hF
     refine ls_any hF (.free rfl) rfl rfl (ex_alloc (cs := [.int .i64 0, .int .i64 0, .int .i64 0, .int .i64 0]) rfl el_28 hS rfl) ?_; clear hF; rintro _ w ⟨g3, rfl, hS⟩ a hF
     replace hS : Sat w0 w [.blk g1 [vD, .int .i64 s.w, .int .i64 s.h, .int .i64 s.kf], .own vo1 3 60 d.n (dcells d.W d.H d.N), .blk g2 [.int .i64 fab1, .int .i64 fpb1, .int .i64 fbb1, .int .i64 fqb1], .blk g3 [.int .i64 0, .int .i64 0, .int .i64 0, .int .i64 0]] := hS
     refine ls_val hF (.free rfl) rfl rfl (ex_assign rfl rfl) ?_; clear hF a; intro a hF
     refine ls_effx hF (.free rfl) rfl (st_blks 3 (ds := [.int .i64 fab2, .int .i64 fpb2, .int .i64 fbb2, .int .i64 fqb2]) rfl st_28 hS rfl rfl rfl rfl (ones_cons rfl (ones_cons rfl (ones_cons rfl (ones_cons rfl ones_nil))))) ?_; clear hS; rintro w hS
     replace hS : Sat w0 w [.blk g1 [vD, .int .i64 s.w, .int .i64 s.h, .int .i64 s.kf], .own vo1 3 60 d.n (dcells d.W d.H d.N), .blk g2 [.int .i64 fab1, .int .i64 fpb1, .int .i64 fbb1, .int .i64 fqb1], .blk g3 [.int .i64 fab2, .int .i64 fpb2, .int .i64 fbb2, .int .i64 fqb2]] := hS
     refine ls_val hF (.free rfl) rfl rfl (ex_assign rfl rfl) ?_; clear hF a; intro a hF
     refine ls_nil ?_
     refine then_normal ?_
     refine cw_seq ?_
     refine dr_sat (m0 := [.blk g1 [vD, .int .i64 s.w, .int .i64 s.h, .int .i64 s.kf], .own vo1 3 60 d.n (dcells d.W d.H d.N), .blk g2 [.int .i64 fab1, .int .i64 fpb1, .int .i64 fbb1, .int .i64 fqb1], .blk g3 [.int .i64 fab2, .int .i64 fpb2, .int .i64 fbb2, .int .i64 fqb2]]) (m1 := [.blk g1 [vD, .int .i64 s.w, .int .i64 s.h, .int .i64 s.kf], .own vo1 3 60 d.n (dcells d.W d.H d.N), .blk g2 [.int .i64 fab1, .int .i64 fpb1, .int .i64 fbb1, .int .i64 fqb1], .blk g3 [.int .i64 fab2, .int .i64 fpb2, .int .i64 fbb2, .int .i64 fqb2]]) 1000 mx_ hS (.cons_cons _ (.cons_cons _ (.cons_cons _ (.cons_cons _ .slnil)))) (.cons_cons _ (.cons_cons _ (.cons_cons _ (.cons_cons _ .slnil)))) rfl ?_; clear hS; intro w hS hcl hB
     refine dr_val hF hcl hB 0 rfl (.free rfl) rfl rfl (by kernel_rfl) rfl (fun w => (ex_move rfl rfl)) ?_; clear hF a hcl hB; intro a hF hcl hB
     refine dr_val hF hcl hB 1 rfl (.free rfl) rfl rfl (by kernel_rfl) rfl (fun w => (ex_move rfl rfl)) ?_; clear hF a hcl hB; intro a hF hcl hB
     refine dr_val hF hcl hB 2 rfl (.free rfl) rfl rfl (by kernel_rfl) rfl (fun w => (known_t (ex_eql rfl rfl rfl) (by omega))) ?_; clear hF a hcl hB; intro a hF hcl hB
     refine dr_val hF hcl hB 3 rfl (.free rfl) rfl rfl (by kernel_rfl) rfl (fun w => (ex_move rfl rfl)) ?_; clear hF a hcl hB; intro a hF hcl hB
     refine dr_val hF hcl hB 4 rfl (.on rfl rfl rfl rfl rfl) rfl rfl (by kernel_rfl) rfl (fun w => (ex_move rfl rfl)) ?_; clear hF a hcl hB; intro a hF hcl hB
     refine dr_val hF hcl hB 5 rfl (.on rfl rfl rfl rfl rfl) rfl rfl (by kernel_rfl) rfl (fun w => (ex_move rfl rfl)) ?_; clear hF a hcl hB; intro a hF hcl hB
     refine dr_val hF hcl hB 6 rfl (.on rfl rfl rfl rfl rfl) rfl rfl (by kernel_rfl) rfl (fun w => (known_t (ex_eql rfl rfl rfl) (by omega))) ?_; clear hF a hcl hB; intro a hF hcl hB
     refine dr_val hF hcl hB 7 rfl (.free rfl) rfl rfl (by kernel_rfl) rfl (fun w => (ex_pick_t rfl rfl rfl)) ?_; clear hF a hcl hB; intro a hF hcl hB
     refine dr_val hF hcl hB 8 rfl (.free rfl) rfl rfl (by kernel_rfl) rfl (fun w => (ex_move rfl rfl)) ?_; clear hF a hcl hB; intro a hF hcl hB
     refine dr_loadA hF hcl hB 9 rfl (.on rfl rfl rfl rfl rfl) rfl rfl (by kernel_rfl) rfl (fun w hS => (ex_loads_blk 2 rfl st_36 rfl hS rfl rfl)) ?_; clear hF a hcl hB; intro a hF hcl hB
     refine dr_loadA hF hcl hB 10 rfl (.on rfl rfl rfl rfl rfl) rfl rfl (by kernel_rfl) rfl (fun w hS => (ex_loads_blk 3 rfl st_28 rfl hS rfl rfl)) ?_; clear hF a hcl hB; intro a hF hcl hB
     refine dr_call hF hcl 11 rfl (.on rfl rfl rfl rfl rfl) rfl rfl (by kernel_rfl) (ex_call0 rfl rfl cl_13 (args_cons rfl args0)) (c_cert (x := ⟨fab2, fpb2, fbb2, fqb2⟩) w) ?_; clear hF hB; rintro _ w ⟨rfl, hS'⟩ a hF hcl
     replace hS : Sat w0 w [.blk g1 [vD, .int .i64 s.w, .int .i64 s.h, .int .i64 s.kf], .own vo1 3 60 d.n (dcells d.W d.H d.N), .blk g2 [.int .i64 fab1, .int .i64 fpb1, .int .i64 fbb1, .int .i64 fqb1], .blk g3 [.int .i64 fab2, .int .i64 fpb2, .int .i64 fbb2, .int .i64 fqb2]] := hS.comp hS'; clear hS'
     refine ⟨⟨(fun _ => hS.sub (.cons_cons _ (.cons_cons _ (.cons_cons _ (.cons_cons _ .slnil))))), hS.sub (.cons_cons _ (.cons_cons _ (.cons_cons _ (.cons_cons _ .slnil))))⟩, fun hB => ?_⟩
     refine dr_val hF hcl hB 12 rfl (.on rfl rfl rfl rfl rfl) rfl rfl (by kernel_rfl) rfl (fun w => (ex_eqs36 rfl rfl rfl hs5 hs6 hs7 hs8)) ?_; clear hF a hcl hB; intro a hF hcl hB
     refine dr_val hF hcl hB 13 rfl (.free rfl) rfl rfl (by kernel_rfl) rfl (fun w => (ex_pick_t rfl rfl rfl)) ?_; clear hF a hcl hB; intro a hF hcl hB
     refine dr_val hF hcl hB 14 rfl (.free rfl) rfl rfl (by kernel_rfl) rfl (fun w => (ex_assign rfl rfl)) ?_; clear hF a hcl hB; intro a hF hcl hB
     refine dr_done (by kernel_rfl) ?_; clear hcl hB
     refine then_normal ?_
     refine wp_ret ?_
     refine (fin1 hF rfl rfl ⟨_, rfl, ?_⟩)
     exact ⟨rfl, hS.sub (.cons _ (.cons _ (.cons _ (.cons _ .slnil))))⟩
    ·
     refine fk_any hF 14 rfl (.free rfl) rfl rfl (ex_alloc (cs := [.int .i64 0, .int .i64 0, .int .i64 0, .int .i64 0]) rfl el_36 hS rfl) ?_; clear hF hB; rintro _ w ⟨g2, rfl, hS⟩ a hF hcl
     replace hS : Sat w0 w [.blk g1 [vD, .int .i64 s.w, .int .i64 s.h, .int .i64 s.kf], .own vo1 3 60 d.n (dcells d.W d.H d.N), .blk g2 [.int .i64 0, .int .i64 0, .int .i64 0, .int .i64 0]] := hS
     refine ⟨⟨(fun _ => hS.sub (.cons_cons _ (.cons _ (.cons _ .slnil)))), hS.sub (.cons_cons _ (.cons _ (.cons _ .slnil)))⟩, fun hB => ?_⟩
     refine dr_call hF hcl 9 rfl (.free rfl) rfl rfl (by kernel_rfl) (ex_call0 rfl rfl cl_16 (args_cons rfl (args_cons rfl (args_cons rfl (args_cons rfl args0))))) (c_Best (d := d) (s := s) w (⟨(hS.rowN 1 rfl), hD.bw, hD.bh, hD.bn⟩ : DAt _ _ d.n d.W d.H d.N) hs) ?_; clear hF hB; rintro _ w ⟨ab1, fab1, fpb1, fbb1, fqb1, eb1, rfl, hrb1, hS'⟩ a hF hcl
     replace hS : Sat w0 w [.blk g1 [vD, .int .i64 s.w, .int .i64 s.h, .int .i64 s.kf], .own vo1 3 60 d.n (dcells d.W d.H d.N), .blk g2 [.int .i64 0, .int .i64 0, .int .i64 0, .int .i64 0]] := hS.comp hS'; clear hS'
     refine ⟨⟨(fun _ => hS.sub (.cons_cons _ (.cons _ (.cons _ .slnil)))), hS.sub (.cons_cons _ (.cons _ (.cons _ .slnil)))⟩, fun hB => ?_⟩
     refine dr_val hF hcl hB 10 rfl (.free rfl) rfl rfl (by kernel_rfl) rfl (fun w => (ex_move rfl rfl)) ?_; clear hF a hcl hB; intro a hF hcl hB
     refine dr_val hF hcl hB 11 rfl (.free rfl) rfl rfl (by kernel_rfl) rfl (fun w => (ex_extract rfl rfl rfl)) ?_; clear hF a hcl hB; intro a hF hcl hB
     refine dr_val hF hcl hB 12 rfl (.free rfl) rfl rfl (by kernel_rfl) rfl (fun w => (ex_extract rfl rfl rfl)) ?_; clear hF a hcl hB; intro a hF hcl hB
     refine dr_val hF hcl hB 13 rfl (.free rfl) rfl rfl (by kernel_rfl) rfl (fun w => (ex_extract rfl rfl rfl)) ?_; clear hF a hcl hB; intro a hF hcl hB
     refine dr_val hF hcl hB 15 rfl (.free rfl) rfl rfl (by kernel_rfl) rfl (fun w => (ex_assign rfl rfl)) ?_; clear hF a hcl hB; intro a hF hcl hB
     refine dr_effx hF hcl 16 rfl (.free rfl) rfl (by kernel_rfl) (st_blks 2 (ds := [.int .i64 fab1, .int .i64 fpb1, .int .i64 fbb1, .int .i64 fqb1]) rfl st_36 hS rfl rfl rfl rfl (ones_cons rfl (ones_cons rfl (ones_cons rfl (ones_cons rfl ones_nil))))) ?_; clear hS hB; rintro w hS hcl
     replace hS : Sat w0 w [.blk g1 [vD, .int .i64 s.w, .int .i64 s.h, .int .i64 s.kf], .own vo1 3 60 d.n (dcells d.W d.H d.N), .blk g2 [.int .i64 fab1, .int .i64 fpb1, .int .i64 fbb1, .int .i64 fqb1]] := hS
     refine ⟨⟨(fun h => absurd h (by decide)), hS.sub (.cons_cons _ (.cons _ (.cons _ .slnil)))⟩, fun hB => ?_⟩
     refine dr_val hF hcl hB 17 rfl (.free rfl) rfl rfl (by kernel_rfl) rfl (fun w => (ex_assign rfl rfl)) ?_; clear hF a hcl hB; intro a hF hcl hB
     refine dr_done (by kernel_rfl) ?_; clear hcl hB
     refine then_normal ?_
     refine cw_seq ?_
     refine wp_region_lit ?_
     refine ls_val hF (.free rfl) rfl rfl (ex_field (b := ⟨g1, 0, none⟩) rfl fd_24_0 rfl rfl) ?_; clear hF a; intro a hF
     refine ls_val hF (.free rfl) rfl rfl (ex_load_blk 0 rfl pl_22 rfl hS rfl rfl) ?_; clear hF a; intro a hF
     refine ls_val hF (.free rfl) rfl rfl (ex_field (b := ⟨g1, 1, none⟩) rfl fd_24_1 rfl rfl) ?_; clear hF a; intro a hF
     refine ls_val hF (.free rfl) rfl rfl (ex_load_blk 0 rfl pl_3 rfl hS rfl rfl) ?_; clear hF a; intro a hF
     refine ls_val hF (.free rfl) rfl rfl (ex_field (b := ⟨g1, 2, none⟩) rfl fd_24_2 rfl rfl) ?_; clear hF a; intro a hF
     refine ls_val hF (.free rfl) rfl rfl (ex_load_blk 0 rfl pl_3 rfl hS rfl rfl) ?_; clear hF a; intro a hF
     refine ls_val hF (.free rfl) rfl rfl (ex_field (b := ⟨g1, 3, none⟩) rfl fd_24_3 rfl rfl) ?_; clear hF a; intro a hF
     refine ls_val hF (.free rfl) rfl rfl (ex_load_blk 0 rfl pl_3 rfl hS rfl rfl) ?_; clear hF a; intro a hF
     refine ls_call hF (.free rfl) rfl rfl (ex_call0 rfl rfl cl_17 (args_cons rfl (args_cons rfl (args_cons rfl (args_cons rfl args0))))) (c_rBest (d := d) (s := s) w (hD.below hS.below) hs) ?_; clear hF; rintro _ w ⟨ab2, fab2, fpb2, fbb2, fqb2, eb2, rfl, hrb2, hS'⟩ a hF
     replace hS : Sat w0 w [.blk g1 [vD, .int .i64 s.w, .int .i64 s.h, .int .i64 s.kf], .own vo1 3 60 d.n (dcells d.W d.H d.N), .blk g2 [.int .i64 fab1, .int .i64 fpb1, .int .i64 fbb1, .int .i64 fqb1]] := hS.comp hS'; clear hS'
     obtain ⟨hs1, hs2, hs3, hs4⟩ := BestR.same hrb1 hrb2
     have hs5 := (Prod.mk.inj hs3).1; have hs6 := (Prod.mk.inj hs3).2; have hs7 := (Prod.mk.inj hs4).1; have hs8 := (Prod.mk.inj hs4).2
     refine ls_val hF (.free rfl) rfl rfl (ex_move rfl rfl) ?_; clear hF a; intro a hF
     refine ls_val hF (.free rfl) rfl rfl (ex_extract rfl rfl rfl) ?_; clear hF a; intro a hF
     refine ls_val hF (.free rfl) rfl rfl (ex_extract rfl rfl rfl) ?_; clear hF a; intro a hF
     refine ls_val hF (.free rfl) rfl rfl (ex_extract rfl rfl rfl) ?_; clear hF a; intro a hF
     refine ls_any hF (.free rfl) rfl rfl (ex_alloc (cs := [.int .i64 0, .int .i64 0, .int .i64 0, .int .i64 0]) rfl el_28 hS rfl) ?_; clear hF; rintro _ w ⟨g3, rfl, hS⟩ a hF
     replace hS : Sat w0 w [.blk g1 [vD, .int .i64 s.w, .int .i64 s.h, .int .i64 s.kf], .own vo1 3 60 d.n (dcells d.W d.H d.N), .blk g2 [.int .i64 fab1, .int .i64 fpb1, .int .i64 fbb1, .int .i64 fqb1], .blk g3 [.int .i64 0, .int .i64 0, .int .i64 0, .int .i64 0]] := hS
     refine ls_val hF (.free rfl) rfl rfl (ex_assign rfl rfl) ?_; clear hF a; intro a hF
     refine ls_effx hF (.free rfl) rfl (st_blks 3 (ds := [.int .i64 fab2, .int .i64 fpb2, .int .i64 fbb2, .int .i64 fqb2]) rfl st_28 hS rfl rfl rfl rfl (ones_cons rfl (ones_cons rfl (ones_cons rfl (ones_cons rfl ones_nil))))) ?_; clear hS; rintro w hS
     replace hS : Sat w0 w [.blk g1 [vD, .int .i64 s.w, .int .i64 s.h, .int .i64 s.kf], .own vo1 3 60 d.n (dcells d.W d.H d.N), .blk g2 [.int .i64 fab1, .int .i64 fpb1, .int .i64 fbb1, .int .i64 fqb1], .blk g3 [.int .i64 fab2, .int .i64 fpb2, .int .i64 fbb2, .int .i64 fqb2]] := hS
     refine ls_val hF (.free rfl) rfl rfl (ex_assign rfl rfl) ?_; clear hF a; intro a hF
     refine ls_nil ?_
     refine then_normal ?_
     refine cw_seq ?_
     refine dr_sat (m0 := [.blk g1 [vD, .int .i64 s.w, .int .i64 s.h, .int .i64 s.kf], .own vo1 3 60 d.n (dcells d.W d.H d.N), .blk g2 [.int .i64 fab1, .int .i64 fpb1, .int .i64 fbb1, .int .i64 fqb1], .blk g3 [.int .i64 fab2, .int .i64 fpb2, .int .i64 fbb2, .int .i64 fqb2]]) (m1 := [.blk g1 [vD, .int .i64 s.w, .int .i64 s.h, .int .i64 s.kf], .own vo1 3 60 d.n (dcells d.W d.H d.N), .blk g2 [.int .i64 fab1, .int .i64 fpb1, .int .i64 fbb1, .int .i64 fqb1], .blk g3 [.int .i64 fab2, .int .i64 fpb2, .int .i64 fbb2, .int .i64 fqb2]]) 1000 mx_ hS (.cons_cons _ (.cons_cons _ (.cons_cons _ (.cons_cons _ .slnil)))) (.cons_cons _ (.cons_cons _ (.cons_cons _ (.cons_cons _ .slnil)))) rfl ?_; clear hS; intro w hS hcl hB
     refine dr_val hF hcl hB 0 rfl (.free rfl) rfl rfl (by kernel_rfl) rfl (fun w => (ex_move rfl rfl)) ?_; clear hF a hcl hB; intro a hF hcl hB
     refine dr_val hF hcl hB 1 rfl (.free rfl) rfl rfl (by kernel_rfl) rfl (fun w => (ex_move rfl rfl)) ?_; clear hF a hcl hB; intro a hF hcl hB
     refine dr_val hF hcl hB 2 rfl (.free rfl) rfl rfl (by kernel_rfl) rfl (fun w => (known_t (ex_eql rfl rfl rfl) (by omega))) ?_; clear hF a hcl hB; intro a hF hcl hB
     refine dr_val hF hcl hB 3 rfl (.free rfl) rfl rfl (by kernel_rfl) rfl (fun w => (ex_move rfl rfl)) ?_; clear hF a hcl hB; intro a hF hcl hB
     refine dr_val hF hcl hB 4 rfl (.on rfl rfl rfl rfl rfl) rfl rfl (by kernel_rfl) rfl (fun w => (ex_move rfl rfl)) ?_; clear hF a hcl hB; intro a hF hcl hB
     refine dr_val hF hcl hB 5 rfl (.on rfl rfl rfl rfl rfl) rfl rfl (by kernel_rfl) rfl (fun w => (ex_move rfl rfl)) ?_; clear hF a hcl hB; intro a hF hcl hB
     refine dr_val hF hcl hB 6 rfl (.on rfl rfl rfl rfl rfl) rfl rfl (by kernel_rfl) rfl (fun w => (known_t (ex_eql rfl rfl rfl) (by omega))) ?_; clear hF a hcl hB; intro a hF hcl hB
     refine dr_val hF hcl hB 7 rfl (.free rfl) rfl rfl (by kernel_rfl) rfl (fun w => (ex_pick_t rfl rfl rfl)) ?_; clear hF a hcl hB; intro a hF hcl hB
     refine dr_val hF hcl hB 8 rfl (.free rfl) rfl rfl (by kernel_rfl) rfl (fun w => (ex_move rfl rfl)) ?_; clear hF a hcl hB; intro a hF hcl hB
     refine dr_loadA hF hcl hB 9 rfl (.on rfl rfl rfl rfl rfl) rfl rfl (by kernel_rfl) rfl (fun w hS => (ex_loads_blk 2 rfl st_36 rfl hS rfl rfl)) ?_; clear hF a hcl hB; intro a hF hcl hB
     refine dr_loadA hF hcl hB 10 rfl (.on rfl rfl rfl rfl rfl) rfl rfl (by kernel_rfl) rfl (fun w hS => (ex_loads_blk 3 rfl st_28 rfl hS rfl rfl)) ?_; clear hF a hcl hB; intro a hF hcl hB
     refine dr_call hF hcl 11 rfl (.on rfl rfl rfl rfl rfl) rfl rfl (by kernel_rfl) (ex_call0 rfl rfl cl_13 (args_cons rfl args0)) (c_cert (x := ⟨fab2, fpb2, fbb2, fqb2⟩) w) ?_; clear hF hB; rintro _ w ⟨rfl, hS'⟩ a hF hcl
     replace hS : Sat w0 w [.blk g1 [vD, .int .i64 s.w, .int .i64 s.h, .int .i64 s.kf], .own vo1 3 60 d.n (dcells d.W d.H d.N), .blk g2 [.int .i64 fab1, .int .i64 fpb1, .int .i64 fbb1, .int .i64 fqb1], .blk g3 [.int .i64 fab2, .int .i64 fpb2, .int .i64 fbb2, .int .i64 fqb2]] := hS.comp hS'; clear hS'
     refine ⟨⟨(fun _ => hS.sub (.cons_cons _ (.cons_cons _ (.cons_cons _ (.cons_cons _ .slnil))))), hS.sub (.cons_cons _ (.cons_cons _ (.cons_cons _ (.cons_cons _ .slnil))))⟩, fun hB => ?_⟩
     refine dr_val hF hcl hB 12 rfl (.on rfl rfl rfl rfl rfl) rfl rfl (by kernel_rfl) rfl (fun w => (ex_eqs36 rfl rfl rfl hs5 hs6 hs7 hs8)) ?_; clear hF a hcl hB; intro a hF hcl hB
     refine dr_val hF hcl hB 13 rfl (.free rfl) rfl rfl (by kernel_rfl) rfl (fun w => (ex_pick_t rfl rfl rfl)) ?_; clear hF a hcl hB; intro a hF hcl hB
     refine dr_val hF hcl hB 14 rfl (.free rfl) rfl rfl (by kernel_rfl) rfl (fun w => (ex_assign rfl rfl)) ?_; clear hF a hcl hB; intro a hF hcl hB
     refine dr_done (by kernel_rfl) ?_; clear hcl hB
     refine then_normal ?_
     refine wp_ret ?_
     refine (fin1 hF rfl rfl ⟨_, rfl, ?_⟩)
     exact ⟨rfl, hS.sub (.cons _ (.cons _ (.cons _ (.cons _ .slnil))))⟩
   ·
    refine fk_any hF 14 rfl (.free rfl) rfl rfl (ex_alloc (cs := [.int .i64 0, .int .i64 0, .int .i64 0, .int .i64 0]) rfl el_36 hS rfl) ?_; clear hF hB; rintro _ w ⟨g2, rfl, hS⟩ a hF hcl
    replace hS : Sat w0 w [.blk g1 [vD, .int .i64 s.w, .int .i64 s.h, .int .i64 s.kf], .blk g2 [.int .i64 0, .int .i64 0, .int .i64 0, .int .i64 0]] := hS
    refine ⟨⟨(fun _ => hS.sub (.cons_cons _ (.cons _ .slnil))), hS.sub (.cons_cons _ (.cons _ .slnil))⟩, fun hB => ?_⟩
    refine dr_call hF hcl 2 rfl (.free rfl) rfl rfl (by kernel_rfl) (ex_call0 rfl rfl cl_14 (args_cons rfl args0)) (c_own (d := d) w (hD.below hS.below) (by omega)) ?_; clear hF hB; rintro vo1 w ⟨_, rfl, hslo1, hS'⟩ a hF hcl
    replace hS : Sat w0 w [.blk g1 [vD, .int .i64 s.w, .int .i64 s.h, .int .i64 s.kf], .blk g2 [.int .i64 0, .int .i64 0, .int .i64 0, .int .i64 0], .own vo1 3 60 d.n (dcells d.W d.H d.N)] := hS.comp hS'; clear hS'
    refine ⟨⟨(fun _ => hS.sub (.cons_cons _ (.cons _ (.cons _ .slnil)))), hS.sub (.cons_cons _ (.cons _ (.cons _ .slnil)))⟩, fun hB => ?_⟩
    refine dr_call hF hcl 9 rfl (.free rfl) rfl rfl (by kernel_rfl) (ex_call0 rfl rfl cl_16 (args_cons rfl (args_cons rfl (args_cons rfl (args_cons rfl args0))))) (c_Best (d := d) (s := s) w (⟨(hS.rowN 2 rfl), hD.bw, hD.bh, hD.bn⟩ : DAt _ _ d.n d.W d.H d.N) hs) ?_; clear hF hB; rintro _ w ⟨ab1, fab1, fpb1, fbb1, fqb1, eb1, rfl, hrb1, hS'⟩ a hF hcl
    replace hS : Sat w0 w [.blk g1 [vD, .int .i64 s.w, .int .i64 s.h, .int .i64 s.kf], .blk g2 [.int .i64 0, .int .i64 0, .int .i64 0, .int .i64 0], .own vo1 3 60 d.n (dcells d.W d.H d.N)] := hS.comp hS'; clear hS'
    refine ⟨⟨(fun _ => hS.sub (.cons_cons _ (.cons _ (.cons _ .slnil)))), hS.sub (.cons_cons _ (.cons _ (.cons _ .slnil)))⟩, fun hB => ?_⟩
    refine dr_val hF hcl hB 10 rfl (.free rfl) rfl rfl (by kernel_rfl) rfl (fun w => (ex_move rfl rfl)) ?_; clear hF a hcl hB; intro a hF hcl hB
    refine dr_val hF hcl hB 11 rfl (.free rfl) rfl rfl (by kernel_rfl) rfl (fun w => (ex_extract rfl rfl rfl)) ?_; clear hF a hcl hB; intro a hF hcl hB
    refine dr_val hF hcl hB 12 rfl (.free rfl) rfl rfl (by kernel_rfl) rfl (fun w => (ex_extract rfl rfl rfl)) ?_; clear hF a hcl hB; intro a hF hcl hB
    refine dr_val hF hcl hB 13 rfl (.free rfl) rfl rfl (by kernel_rfl) rfl (fun w => (ex_extract rfl rfl rfl)) ?_; clear hF a hcl hB; intro a hF hcl hB
    refine dr_val hF hcl hB 15 rfl (.free rfl) rfl rfl (by kernel_rfl) rfl (fun w => (ex_assign rfl rfl)) ?_; clear hF a hcl hB; intro a hF hcl hB
    refine dr_effx hF hcl 16 rfl (.free rfl) rfl (by kernel_rfl) (st_blks 1 (ds := [.int .i64 fab1, .int .i64 fpb1, .int .i64 fbb1, .int .i64 fqb1]) rfl st_36 hS rfl rfl rfl rfl (ones_cons rfl (ones_cons rfl (ones_cons rfl (ones_cons rfl ones_nil))))) ?_; clear hS hB; rintro w hS hcl
    replace hS : Sat w0 w [.blk g1 [vD, .int .i64 s.w, .int .i64 s.h, .int .i64 s.kf], .blk g2 [.int .i64 fab1, .int .i64 fpb1, .int .i64 fbb1, .int .i64 fqb1], .own vo1 3 60 d.n (dcells d.W d.H d.N)] := hS
    refine ⟨⟨(fun h => absurd h (by decide)), hS.sub (.cons_cons _ (.cons _ (.cons _ .slnil)))⟩, fun hB => ?_⟩
    refine dr_val hF hcl hB 17 rfl (.free rfl) rfl rfl (by kernel_rfl) rfl (fun w => (ex_assign rfl rfl)) ?_; clear hF a hcl hB; intro a hF hcl hB
    refine dr_done (by kernel_rfl) ?_; clear hcl hB
    refine then_normal ?_
    refine cw_seq ?_
    refine wp_region_lit ?_
    refine ls_val hF (.free rfl) rfl rfl (ex_field (b := ⟨g1, 0, none⟩) rfl fd_24_0 rfl rfl) ?_; clear hF a; intro a hF
    refine ls_val hF (.free rfl) rfl rfl (ex_load_blk 0 rfl pl_22 rfl hS rfl rfl) ?_; clear hF a; intro a hF
    refine ls_val hF (.free rfl) rfl rfl (ex_field (b := ⟨g1, 1, none⟩) rfl fd_24_1 rfl rfl) ?_; clear hF a; intro a hF
    refine ls_val hF (.free rfl) rfl rfl (ex_load_blk 0 rfl pl_3 rfl hS rfl rfl) ?_; clear hF a; intro a hF
    refine ls_val hF (.free rfl) rfl rfl (ex_field (b := ⟨g1, 2, none⟩) rfl fd_24_2 rfl rfl) ?_; clear hF a; intro a hF
    refine ls_val hF (.free rfl) rfl rfl (ex_load_blk 0 rfl pl_3 rfl hS rfl rfl) ?_; clear hF a; intro a hF
    refine ls_val hF (.free rfl) rfl rfl (ex_field (b := ⟨g1, 3, none⟩) rfl fd_24_3 rfl rfl) ?_; clear hF a; intro a hF
    refine ls_val hF (.free rfl) rfl rfl (ex_load_blk 0 rfl pl_3 rfl hS rfl rfl) ?_; clear hF a; intro a hF
    refine ls_call hF (.free rfl) rfl rfl (ex_call0 rfl rfl cl_17 (args_cons rfl (args_cons rfl (args_cons rfl (args_cons rfl args0))))) (c_rBest (d := d) (s := s) w (hD.below hS.below) hs) ?_; clear hF; rintro _ w ⟨ab2, fab2, fpb2, fbb2, fqb2, eb2, rfl, hrb2, hS'⟩ a hF
    replace hS : Sat w0 w [.blk g1 [vD, .int .i64 s.w, .int .i64 s.h, .int .i64 s.kf], .blk g2 [.int .i64 fab1, .int .i64 fpb1, .int .i64 fbb1, .int .i64 fqb1], .own vo1 3 60 d.n (dcells d.W d.H d.N)] := hS.comp hS'; clear hS'
    obtain ⟨hs1, hs2, hs3, hs4⟩ := BestR.same hrb1 hrb2
    have hs5 := (Prod.mk.inj hs3).1; have hs6 := (Prod.mk.inj hs3).2; have hs7 := (Prod.mk.inj hs4).1; have hs8 := (Prod.mk.inj hs4).2
    refine ls_val hF (.free rfl) rfl rfl (ex_move rfl rfl) ?_; clear hF a; intro a hF
    refine ls_val hF (.free rfl) rfl rfl (ex_extract rfl rfl rfl) ?_; clear hF a; intro a hF
    refine ls_val hF (.free rfl) rfl rfl (ex_extract rfl rfl rfl) ?_; clear hF a; intro a hF
    refine ls_val hF (.free rfl) rfl rfl (ex_extract rfl rfl rfl) ?_; clear hF a; intro a hF
    refine ls_any hF (.free rfl) rfl rfl (ex_alloc (cs := [.int .i64 0, .int .i64 0, .int .i64 0, .int .i64 0]) rfl el_28 hS rfl) ?_; clear hF; rintro _ w ⟨g3, rfl, hS⟩ a hF
    replace hS : Sat w0 w [.blk g1 [vD, .int .i64 s.w, .int .i64 s.h, .int .i64 s.kf], .blk g2 [.int .i64 fab1, .int .i64 fpb1, .int .i64 fbb1, .int .i64 fqb1], .own vo1 3 60 d.n (dcells d.W d.H d.N), .blk g3 [.int .i64 0, .int .i64 0, .int .i64 0, .int .i64 0]] := hS
    refine ls_val hF (.free rfl) rfl rfl (ex_assign rfl rfl) ?_; clear hF a; intro a hF
    refine ls_effx hF (.free rfl) rfl (st_blks 3 (ds := [.int .i64 fab2, .int .i64 fpb2, .int .i64 fbb2, .int .i64 fqb2]) rfl st_28 hS rfl rfl rfl rfl (ones_cons rfl (ones_cons rfl (ones_cons rfl (ones_cons rfl ones_nil))))) ?_; clear hS; rintro w hS
    replace hS : Sat w0 w [.blk g1 [vD, .int .i64 s.w, .int .i64 s.h, .int .i64 s.kf], .blk g2 [.int .i64 fab1, .int .i64 fpb1, .int .i64 fbb1, .int .i64 fqb1], .own vo1 3 60 d.n (dcells d.W d.H d.N), .blk g3 [.int .i64 fab2, .int .i64 fpb2, .int .i64 fbb2, .int .i64 fqb2]] := hS
    refine ls_val hF (.free rfl) rfl rfl (ex_assign rfl rfl) ?_; clear hF a; intro a hF
    refine ls_nil ?_
    refine then_normal ?_
    refine cw_seq ?_
    refine dr_sat (m0 := [.blk g1 [vD, .int .i64 s.w, .int .i64 s.h, .int .i64 s.kf], .blk g2 [.int .i64 fab1, .int .i64 fpb1, .int .i64 fbb1, .int .i64 fqb1], .own vo1 3 60 d.n (dcells d.W d.H d.N), .blk g3 [.int .i64 fab2, .int .i64 fpb2, .int .i64 fbb2, .int .i64 fqb2]]) (m1 := [.blk g1 [vD, .int .i64 s.w, .int .i64 s.h, .int .i64 s.kf], .blk g2 [.int .i64 fab1, .int .i64 fpb1, .int .i64 fbb1, .int .i64 fqb1], .own vo1 3 60 d.n (dcells d.W d.H d.N), .blk g3 [.int .i64 fab2, .int .i64 fpb2, .int .i64 fbb2, .int .i64 fqb2]]) 1000 mx_ hS (.cons_cons _ (.cons_cons _ (.cons_cons _ (.cons_cons _ .slnil)))) (.cons_cons _ (.cons_cons _ (.cons_cons _ (.cons_cons _ .slnil)))) rfl ?_; clear hS; intro w hS hcl hB
    refine dr_val hF hcl hB 0 rfl (.free rfl) rfl rfl (by kernel_rfl) rfl (fun w => (ex_move rfl rfl)) ?_; clear hF a hcl hB; intro a hF hcl hB
    refine dr_val hF hcl hB 1 rfl (.free rfl) rfl rfl (by kernel_rfl) rfl (fun w => (ex_move rfl rfl)) ?_; clear hF a hcl hB; intro a hF hcl hB
    refine dr_val hF hcl hB 2 rfl (.free rfl) rfl rfl (by kernel_rfl) rfl (fun w => (known_t (ex_eql rfl rfl rfl) (by omega))) ?_; clear hF a hcl hB; intro a hF hcl hB
    refine dr_val hF hcl hB 3 rfl (.free rfl) rfl rfl (by kernel_rfl) rfl (fun w => (ex_move rfl rfl)) ?_; clear hF a hcl hB; intro a hF hcl hB
    refine dr_val hF hcl hB 4 rfl (.on rfl rfl rfl rfl rfl) rfl rfl (by kernel_rfl) rfl (fun w => (ex_move rfl rfl)) ?_; clear hF a hcl hB; intro a hF hcl hB
    refine dr_val hF hcl hB 5 rfl (.on rfl rfl rfl rfl rfl) rfl rfl (by kernel_rfl) rfl (fun w => (ex_move rfl rfl)) ?_; clear hF a hcl hB; intro a hF hcl hB
    refine dr_val hF hcl hB 6 rfl (.on rfl rfl rfl rfl rfl) rfl rfl (by kernel_rfl) rfl (fun w => (known_t (ex_eql rfl rfl rfl) (by omega))) ?_; clear hF a hcl hB; intro a hF hcl hB
    refine dr_val hF hcl hB 7 rfl (.free rfl) rfl rfl (by kernel_rfl) rfl (fun w => (ex_pick_t rfl rfl rfl)) ?_; clear hF a hcl hB; intro a hF hcl hB
    refine dr_val hF hcl hB 8 rfl (.free rfl) rfl rfl (by kernel_rfl) rfl (fun w => (ex_move rfl rfl)) ?_; clear hF a hcl hB; intro a hF hcl hB
    refine dr_loadA hF hcl hB 9 rfl (.on rfl rfl rfl rfl rfl) rfl rfl (by kernel_rfl) rfl (fun w hS => (ex_loads_blk 1 rfl st_36 rfl hS rfl rfl)) ?_; clear hF a hcl hB; intro a hF hcl hB
    refine dr_loadA hF hcl hB 10 rfl (.on rfl rfl rfl rfl rfl) rfl rfl (by kernel_rfl) rfl (fun w hS => (ex_loads_blk 3 rfl st_28 rfl hS rfl rfl)) ?_; clear hF a hcl hB; intro a hF hcl hB
    refine dr_call hF hcl 11 rfl (.on rfl rfl rfl rfl rfl) rfl rfl (by kernel_rfl) (ex_call0 rfl rfl cl_13 (args_cons rfl args0)) (c_cert (x := ⟨fab2, fpb2, fbb2, fqb2⟩) w) ?_; clear hF hB; rintro _ w ⟨rfl, hS'⟩ a hF hcl
    replace hS : Sat w0 w [.blk g1 [vD, .int .i64 s.w, .int .i64 s.h, .int .i64 s.kf], .blk g2 [.int .i64 fab1, .int .i64 fpb1, .int .i64 fbb1, .int .i64 fqb1], .own vo1 3 60 d.n (dcells d.W d.H d.N), .blk g3 [.int .i64 fab2, .int .i64 fpb2, .int .i64 fbb2, .int .i64 fqb2]] := hS.comp hS'; clear hS'
    refine ⟨⟨(fun _ => hS.sub (.cons_cons _ (.cons_cons _ (.cons_cons _ (.cons_cons _ .slnil))))), hS.sub (.cons_cons _ (.cons_cons _ (.cons_cons _ (.cons_cons _ .slnil))))⟩, fun hB => ?_⟩
    refine dr_val hF hcl hB 12 rfl (.on rfl rfl rfl rfl rfl) rfl rfl (by kernel_rfl) rfl (fun w => (ex_eqs36 rfl rfl rfl hs5 hs6 hs7 hs8)) ?_; clear hF a hcl hB; intro a hF hcl hB
    refine dr_val hF hcl hB 13 rfl (.free rfl) rfl rfl (by kernel_rfl) rfl (fun w => (ex_pick_t rfl rfl rfl)) ?_; clear hF a hcl hB; intro a hF hcl hB
    refine dr_val hF hcl hB 14 rfl (.free rfl) rfl rfl (by kernel_rfl) rfl (fun w => (ex_assign rfl rfl)) ?_; clear hF a hcl hB; intro a hF hcl hB
    refine dr_done (by kernel_rfl) ?_; clear hcl hB
    refine then_normal ?_
    refine wp_ret ?_
    refine (fin1 hF rfl rfl ⟨_, rfl, ?_⟩)
    exact ⟨rfl, hS.sub (.cons _ (.cons _ (.cons _ (.cons _ .slnil))))⟩

set_option maxRecDepth 20000 in
theorem law_least {vD : Value} {d : Dem} {s : Sht} (w0 : World) (hD : DAt w0 vD d.n d.W d.H d.N) (hs : (-9223372036854775808 ≤ s.w ∧ s.w ≤ 9223372036854775807) ∧ (-9223372036854775808 ≤ s.h ∧ s.h ≤ 9223372036854775807) ∧ (-9223372036854775808 ≤ s.kf ∧ s.kf ≤ 9223372036854775807)) :
    Calls Try.prog 6 [.agg #[vD, .int .i64 s.w, .int .i64 s.h, .int .i64 s.kf]].toArray w0 fun e w => ∃ v, e = .returned v ∧ v = .bool true ∧ Sat w0 w [] := by
  have hn := hD.row.slh.n0
  refine enterS (vs := [.agg #[vD, .int .i64 s.w, .int .i64 s.h, .int .i64 s.kf]]) Try.func6 rfl Try.ntmps6 rfl ?_
  intro a w hS hF
  refine cw_seq ?_
  refine wp_region_lit ?_
  refine ls_any hF (.free rfl) rfl rfl (ex_box (cs := [vD, .int .i64 s.w, .int .i64 s.h, .int .i64 s.kf]) rfl hS rfl rfl) ?_; clear hF; rintro _ w ⟨g1, rfl, hS⟩ a hF
  replace hS : Sat w0 w [.blk g1 [vD, .int .i64 s.w, .int .i64 s.h, .int .i64 s.kf]] := hS
  refine ls_val hF (.free rfl) rfl rfl (ex_assign rfl rfl) ?_; clear hF a; intro a hF
  refine ls_nil ?_
  refine then_normal ?_
  refine cw_seq ?_
  refine cw_seq ?_
  refine wp_region_lit ?_
  refine ls_call hF (.free rfl) rfl rfl (ex_call0 rfl rfl cl_10 args0) (c_awake w) ?_; clear hF; rintro _ w ⟨rfl, hS'⟩ a hF
  replace hS : Sat w0 w [.blk g1 [vD, .int .i64 s.w, .int .i64 s.h, .int .i64 s.kf]] := hS.comp hS'; clear hS'
  refine ls_val hF (.free rfl) rfl rfl (ex_not_t rfl rfl) ?_; clear hF a; intro a hF
  refine ls_nil ?_
  refine then_normal ?_
  refine cw_f hF rfl ?_
  refine wp_skip ?_
  refine then_normal ?_
  refine cw_seq ?_
  refine cw_seq ?_
  refine wp_region_lit ?_
  refine ls_val hF (.free rfl) rfl rfl (ex_field (b := ⟨g1, 0, none⟩) rfl fd_24_0 rfl rfl) ?_; clear hF a; intro a hF
  refine ls_val hF (.free rfl) rfl rfl (ex_load_blk 0 rfl pl_22 rfl hS rfl rfl) ?_; clear hF a; intro a hF
  refine ls_call hF (.free rfl) rfl rfl (ex_call0 rfl rfl cl_11 (args_cons rfl args0)) (c_few (d := d) w (hD.below hS.below)) ?_; clear hF; rintro _ w ⟨rfl, hS'⟩ a hF
  replace hS : Sat w0 w [.blk g1 [vD, .int .i64 s.w, .int .i64 s.h, .int .i64 s.kf]] := hS.comp hS'; clear hS'
  refine ls_val hF (.free rfl) rfl rfl (ex_not rfl rfl) ?_; clear hF a; intro a hF
  refine ls_nil ?_
  refine then_normal ?_
  refine cw_if hF rfl (fun hc => ?_) (fun hc => ?_)
  ·
   refine cw_seq ?_
   refine wp_region_lit ?_
   refine ls_val hF (.free rfl) rfl rfl (ex_assign rfl rfl) ?_; clear hF a; intro a hF
   refine ls_nil ?_
   refine then_normal ?_
   refine wp_ret ?_
   refine then_ret ((fin1 hF rfl rfl ⟨_, rfl, ?_⟩))
   exact ⟨rfl, hS.sub (.cons _ .slnil)⟩
  ·
   refine wp_skip ?_
   refine then_normal ?_
   refine cw_seq ?_
   refine dr_sat (m0 := [.blk g1 [vD, .int .i64 s.w, .int .i64 s.h, .int .i64 s.kf]]) (m1 := [.blk g1 [vD, .int .i64 s.w, .int .i64 s.h, .int .i64 s.kf]]) 16 mx_ hS (.cons_cons _ .slnil) (.cons_cons _ .slnil) rfl ?_; clear hS; intro w hS hcl hB
   refine dr_val hF hcl hB 0 rfl (.free rfl) rfl rfl (by kernel_rfl) rfl (fun w => (ex_field (b := ⟨g1, 0, none⟩) rfl fd_24_0 rfl rfl)) ?_; clear hF a hcl hB; intro a hF hcl hB
   refine dr_loadA hF hcl hB 1 rfl (.free rfl) rfl rfl (by kernel_rfl) rfl (fun w hS => (ex_load_blk 0 rfl pl_22 rfl hS rfl rfl)) ?_; clear hF a hcl hB; intro a hF hcl hB
   refine dr_val hF hcl hB 3 rfl (.free rfl) rfl rfl (by kernel_rfl) rfl (fun w => (ex_field (b := ⟨g1, 1, none⟩) rfl fd_24_1 rfl rfl)) ?_; clear hF a hcl hB; intro a hF hcl hB
   refine dr_loadA hF hcl hB 4 rfl (.free rfl) rfl rfl (by kernel_rfl) rfl (fun w hS => (ex_load_blk 0 rfl pl_3 rfl hS rfl rfl)) ?_; clear hF a hcl hB; intro a hF hcl hB
   refine dr_val hF hcl hB 5 rfl (.free rfl) rfl rfl (by kernel_rfl) rfl (fun w => (ex_field (b := ⟨g1, 2, none⟩) rfl fd_24_2 rfl rfl)) ?_; clear hF a hcl hB; intro a hF hcl hB
   refine dr_loadA hF hcl hB 6 rfl (.free rfl) rfl rfl (by kernel_rfl) rfl (fun w hS => (ex_load_blk 0 rfl pl_3 rfl hS rfl rfl)) ?_; clear hF a hcl hB; intro a hF hcl hB
   refine dr_val hF hcl hB 7 rfl (.free rfl) rfl rfl (by kernel_rfl) rfl (fun w => (ex_field (b := ⟨g1, 3, none⟩) rfl fd_24_3 rfl rfl)) ?_; clear hF a hcl hB; intro a hF hcl hB
   refine dr_loadA hF hcl hB 8 rfl (.free rfl) rfl rfl (by kernel_rfl) rfl (fun w hS => (ex_load_blk 0 rfl pl_3 rfl hS rfl rfl)) ?_; clear hF a hcl hB; intro a hF hcl hB
   refine dr_fork (r := [2, 14]) hcl (by decide) (by kernel_rfl) ((fk_cons ?_ (fk_cons ?_ fk_nil)))
   ·
    refine fk_call hF 2 rfl (.free rfl) rfl rfl (ex_call0 rfl rfl cl_14 (args_cons rfl args0)) (c_own (d := d) w (hD.below hS.below) (by omega)) ?_; clear hF hB; rintro vo1 w ⟨_, rfl, hslo1, hS'⟩ a hF hcl
    replace hS : Sat w0 w [.blk g1 [vD, .int .i64 s.w, .int .i64 s.h, .int .i64 s.kf], .own vo1 3 60 d.n (dcells d.W d.H d.N)] := hS.comp hS'; clear hS'
    refine ⟨⟨(fun _ => hS.sub (.cons_cons _ (.cons _ .slnil))), hS.sub (.cons_cons _ (.cons _ .slnil))⟩, fun hB => ?_⟩
    refine dr_fork (r := [9, 14]) hcl (by decide) (by kernel_rfl) ((fk_cons ?_ (fk_cons ?_ fk_nil)))
    ·
     refine fk_call hF 9 rfl (.free rfl) rfl rfl (ex_call0 rfl rfl cl_16 (args_cons rfl (args_cons rfl (args_cons rfl (args_cons rfl args0))))) (c_Best (d := d) (s := s) w (⟨(hS.rowN 1 rfl), hD.bw, hD.bh, hD.bn⟩ : DAt _ _ d.n d.W d.H d.N) hs) ?_; clear hF hB; rintro _ w ⟨ab1, fab1, fpb1, fbb1, fqb1, eb1, rfl, hrb1, hS'⟩ a hF hcl
     replace hS : Sat w0 w [.blk g1 [vD, .int .i64 s.w, .int .i64 s.h, .int .i64 s.kf], .own vo1 3 60 d.n (dcells d.W d.H d.N)] := hS.comp hS'; clear hS'
     refine ⟨⟨(fun _ => hS.sub (.cons_cons _ (.cons _ .slnil))), hS.sub (.cons_cons _ (.cons _ .slnil))⟩, fun hB => ?_⟩
     refine dr_val hF hcl hB 10 rfl (.free rfl) rfl rfl (by kernel_rfl) rfl (fun w => (ex_move rfl rfl)) ?_; clear hF a hcl hB; intro a hF hcl hB
     refine dr_val hF hcl hB 11 rfl (.free rfl) rfl rfl (by kernel_rfl) rfl (fun w => (ex_extract rfl rfl rfl)) ?_; clear hF a hcl hB; intro a hF hcl hB
     refine dr_val hF hcl hB 12 rfl (.free rfl) rfl rfl (by kernel_rfl) rfl (fun w => (ex_extract rfl rfl rfl)) ?_; clear hF a hcl hB; intro a hF hcl hB
     refine dr_val hF hcl hB 13 rfl (.free rfl) rfl rfl (by kernel_rfl) rfl (fun w => (ex_extract rfl rfl rfl)) ?_; clear hF a hcl hB; intro a hF hcl hB
     refine dr_any hF hcl 14 rfl (.free rfl) rfl rfl (by kernel_rfl) (ex_alloc (cs := [.int .i64 0, .int .i64 0, .int .i64 0, .int .i64 0]) rfl el_36 hS rfl) ?_; clear hF hB; rintro _ w ⟨g2, rfl, hS⟩ a hF hcl
     replace hS : Sat w0 w [.blk g1 [vD, .int .i64 s.w, .int .i64 s.h, .int .i64 s.kf], .own vo1 3 60 d.n (dcells d.W d.H d.N), .blk g2 [.int .i64 0, .int .i64 0, .int .i64 0, .int .i64 0]] := hS
     refine ⟨⟨(fun _ => hS.sub (.cons_cons _ (.cons _ (.cons _ .slnil)))), hS.sub (.cons_cons _ (.cons _ (.cons _ .slnil)))⟩, fun hB => ?_⟩
     refine dr_val hF hcl hB 15 rfl (.free rfl) rfl rfl (by kernel_rfl) rfl (fun w => (ex_assign rfl rfl)) ?_; clear hF a hcl hB; intro a hF hcl hB
     refine dr_effx hF hcl 16 rfl (.free rfl) rfl (by kernel_rfl) (st_blks 2 (ds := [.int .i64 fab1, .int .i64 fpb1, .int .i64 fbb1, .int .i64 fqb1]) rfl st_36 hS rfl rfl rfl rfl (ones_cons rfl (ones_cons rfl (ones_cons rfl (ones_cons rfl ones_nil))))) ?_; clear hS hB; rintro w hS hcl
     replace hS : Sat w0 w [.blk g1 [vD, .int .i64 s.w, .int .i64 s.h, .int .i64 s.kf], .own vo1 3 60 d.n (dcells d.W d.H d.N), .blk g2 [.int .i64 fab1, .int .i64 fpb1, .int .i64 fbb1, .int .i64 fqb1]] := hS
     refine ⟨⟨(fun h => absurd h (by decide)), hS.sub (.cons_cons _ (.cons _ (.cons _ .slnil)))⟩, fun hB => ?_⟩
     refine dr_val hF hcl hB 17 rfl (.free rfl) rfl rfl (by kernel_rfl) rfl (fun w => (ex_assign rfl rfl)) ?_; clear hF a hcl hB; intro a hF hcl hB
     refine dr_done (by kernel_rfl) ?_; clear hcl hB
     refine then_normal ?_
     refine cw_seq ?_
     refine cw_seq ?_
     refine wp_region_lit ?_
     refine ls_val hF (.free rfl) rfl rfl (ex_move rfl rfl) ?_; clear hF a; intro a hF
     refine ls_val hF (.free rfl) rfl rfl (ex_neq rfl rfl rfl) ?_; clear hF a; intro a hF
     refine ls_nil ?_
     refine then_normal ?_
     refine cw_if hF rfl (fun hc => ?_) (fun hc => ?_)
     ·
      refine cw_seq ?_
      refine wp_region_lit ?_
      refine ls_val hF (.free rfl) rfl rfl (ex_move rfl rfl) ?_; clear hF a; intro a hF
      have hz := hrb1.err (by omega)
      refine ls_val hF (.free rfl) rfl rfl (known_t (ex_eql rfl rfl rfl) (by omega)) ?_; clear hF a; intro a hF
      refine ls_val hF (.free rfl) rfl rfl (ex_assign rfl rfl) ?_; clear hF a; intro a hF
      refine ls_nil ?_
      refine then_normal ?_
      refine wp_ret ?_
      refine then_ret ((fin1 hF rfl rfl ⟨_, rfl, ?_⟩))
      exact ⟨rfl, hS.sub (.cons _ (.cons _ (.cons _ .slnil)))⟩
     ·
      refine wp_skip ?_
      refine then_normal ?_
      refine cw_seq ?_
      refine wp_region_lit ?_
      refine ls_val hF (.free rfl) rfl rfl (ex_assign rfl rfl) ?_; clear hF a; intro a hF
      obtain ⟨hk, hng, hcA, hcB, hBo⟩ := hrb1.ok (by omega)
      have b2 := hk.w1
      have b3 := hk.w2
      have b4 := hk.h1
      have b5 := hk.h2
      have b6 := hk.k1
      have b7 := hk.k2
      have b8 := hk.few
      refine ls_val hF (.free rfl) rfl rfl (ex_assign rfl rfl) ?_; clear hF a; intro a hF
      refine ls_nil ?_
      refine then_normal ?_
      refine cw_seq ?_
      refine dr_sat (m0 := [.blk g1 [vD, .int .i64 s.w, .int .i64 s.h, .int .i64 s.kf], .own vo1 3 60 d.n (dcells d.W d.H d.N), .blk g2 [.int .i64 fab1, .int .i64 fpb1, .int .i64 fbb1, .int .i64 fqb1]]) (m1 := [.blk g1 [vD, .int .i64 s.w, .int .i64 s.h, .int .i64 s.kf], .own vo1 3 60 d.n (dcells d.W d.H d.N), .blk g2 [.int .i64 fab1, .int .i64 fpb1, .int .i64 fbb1, .int .i64 fqb1]]) 1000 mx_ hS (.cons_cons _ (.cons_cons _ (.cons_cons _ .slnil))) (.cons_cons _ (.cons_cons _ (.cons_cons _ .slnil))) rfl ?_; clear hS; intro w hS hcl hB
      refine dr_val hF hcl hB 0 rfl (.free rfl) rfl rfl (by kernel_rfl) rfl (fun w => (ex_field (b := ⟨g1, 1, none⟩) rfl fd_24_1 rfl rfl)) ?_; clear hF a hcl hB; intro a hF hcl hB
      refine dr_loadA hF hcl hB 1 rfl (.free rfl) rfl rfl (by kernel_rfl) rfl (fun w hS => (ex_load_blk 0 rfl pl_3 rfl hS rfl rfl)) ?_; clear hF a hcl hB; intro a hF hcl hB
      refine dr_val hF hcl hB 2 rfl (.free rfl) rfl rfl (by kernel_rfl) rfl (fun w => (ex_field (b := ⟨g1, 3, none⟩) rfl fd_24_3 rfl rfl)) ?_; clear hF a hcl hB; intro a hF hcl hB
      refine dr_loadA hF hcl hB 3 rfl (.free rfl) rfl rfl (by kernel_rfl) rfl (fun w hS => (ex_load_blk 0 rfl pl_3 rfl hS rfl rfl)) ?_; clear hF a hcl hB; intro a hF hcl hB
      refine dr_val hF hcl hB 4 rfl (.free rfl) rfl rfl (by kernel_rfl) rfl (fun w => (ex_add (r := s.w + s.kf) rfl rfl rfl (by omega) (by unfold I64; omega))) ?_; clear hF a hcl hB; intro a hF hcl hB
      refine dr_val hF hcl hB 5 rfl (.free rfl) rfl rfl (by kernel_rfl) rfl (fun w => (ex_field (b := ⟨g1, 2, none⟩) rfl fd_24_2 rfl rfl)) ?_; clear hF a hcl hB; intro a hF hcl hB
      refine dr_loadA hF hcl hB 6 rfl (.free rfl) rfl rfl (by kernel_rfl) rfl (fun w hS => (ex_load_blk 0 rfl pl_3 rfl hS rfl rfl)) ?_; clear hF a hcl hB; intro a hF hcl hB
      refine dr_val hF hcl hB 7 rfl (.free rfl) rfl rfl (by kernel_rfl) rfl (fun w => (ex_field (b := ⟨g1, 3, none⟩) rfl fd_24_3 rfl rfl)) ?_; clear hF a hcl hB; intro a hF hcl hB
      refine dr_loadA hF hcl hB 8 rfl (.free rfl) rfl rfl (by kernel_rfl) rfl (fun w hS => (ex_load_blk 0 rfl pl_3 rfl hS rfl rfl)) ?_; clear hF a hcl hB; intro a hF hcl hB
      refine dr_val hF hcl hB 9 rfl (.free rfl) rfl rfl (by kernel_rfl) rfl (fun w => (ex_add (r := s.h + s.kf) rfl rfl rfl (by omega) (by unfold I64; omega))) ?_; clear hF a hcl hB; intro a hF hcl hB
      refine dr_val hF hcl hB 10 rfl (.free rfl) rfl rfl (by kernel_rfl) rfl (fun w => (ex_assign rfl rfl)) ?_; clear hF a hcl hB; intro a hF hcl hB
      refine dr_val hF hcl hB 11 rfl (.free rfl) rfl rfl (by kernel_rfl) rfl (fun w => (ex_assign rfl rfl)) ?_; clear hF a hcl hB; intro a hF hcl hB
      refine dr_done (by kernel_rfl) ?_; clear hcl hB
      refine then_normal ?_
      refine cw_seq ?_
      refine cw_seq ?_
      refine wp_region_lit ?_
      refine ls_val hF (.free rfl) rfl rfl (ex_field (b := ⟨g1, 0, none⟩) rfl fd_24_0 rfl rfl) ?_; clear hF a; intro a hF
      refine ls_val hF (.free rfl) rfl rfl (ex_load_blk 0 rfl pl_22 rfl hS rfl rfl) ?_; clear hF a; intro a hF
      refine ls_val hF (.free rfl) rfl rfl (ex_len rfl sl_22 rfl hD.row.slh) ?_; clear hF a; intro a hF
      refine ls_val hF (.free rfl) rfl rfl (ex_move rfl rfl) ?_; clear hF a; intro a hF
      refine ls_nil ?_
      refine then_normal ?_
      refine wp_block ?_
      refine cw_loop (fun mm a w => ∃ (t : Int) (u : Int) (i : Int), mm = ((d.n - i).toNat) ∧ (0 ≤ i) ∧ (i ≤ d.n) ∧ (t = sumTo (area d s) i.toNat) ∧ (u = sumTo (greats d s) i.toNat) ∧ (0 ≤ t ∧ t ≤ i * 4202500000) ∧ (0 ≤ u ∧ u ≤ i * 1000) ∧ Fr a 104 [(1, .pointer (some ⟨g1, 0, none⟩)), (2, .bool false), (3, .int .i64 ab1), (6, .int .i64 t), (7, .int .i64 u), (8, .int .i64 (s.w + s.kf)), (9, .int .i64 (s.h + s.kf)), (47, vD), (48, .int .i64 d.n), (49, .int .i64 i)] ∧ Sat w0 w [.blk g1 [vD, .int .i64 s.w, .int .i64 s.h, .int .i64 s.kf], .own vo1 3 60 d.n (dcells d.W d.H d.N), .blk g2 [.int .i64 fab1, .int .i64 fpb1, .int .i64 fbb1, .int .i64 fqb1]]) ?_ ?_ (m := ((d.n - 0).toNat))
      ·
       refine ⟨0, 0, 0, rfl, (by omega), (by omega), ?_, ?_, (by omega), (by omega), (hF.pick (hF.pick (hF.pick (hF.pick (hF.pick (hF.pick (hF.pick (hF.pick (hF.pick (hF.pick hF.nil 49 rfl) 48 rfl) 47 rfl) 9 rfl) 8 rfl) 7 rfl) 6 rfl) 3 rfl) 2 rfl) 1 rfl), hS⟩
       ·
        rfl
       ·
        rfl
      ·
       clear hF hS a w
       rintro mm a w ⟨t, u, i, rfl, h0, h1, hta, htg, ht0, hu0, hF, hS⟩
       refine cw_seq ?_
       refine wp_region_lit ?_
       refine ls_val hF (.free rfl) rfl rfl (ex_lss rfl rfl rfl) ?_; clear hF a; intro a hF
       refine ls_nil ?_
       refine then_normal ?_
       refine cw_seq ?_
       refine cw_if hF rfl (fun hc => ?_) (fun hc => ?_)
       ·
        refine wp_skip ?_
        refine then_normal ?_
        refine cw_seq ?_
        refine wp_block ?_
        refine cw_seq ?_
        refine wp_region_lit ?_
        refine ls_val hF (.free rfl) rfl rfl (ex_index (k := 3 * i) rfl sl_22 rfl rfl hD.row.slh (by omega) (by omega) (by omega)) ?_; clear hF a; intro a hF
        refine ls_val hF (.free rfl) rfl rfl (ex_loads_row (cs := [.int .i64 (d.W i), .int .i64 (d.H i), .int .i64 (d.N i)]) rfl st_62 rfl (hD.row.below hS.below) (by omega) (by omega) rfl (by omega) (dcells_at d.W d.H d.N (by omega))) ?_; clear hF a; intro a hF
        have hbv := hD.bw i
        have hbv := hD.bh i
        have hbv := hD.bn i
        have hei := hk.all i h0 (by omega); unfold Dem.each at hei; have hm1 := mul_rng (A := 1000) (B := 2050) (a := d.N i) (b := d.W i + s.kf) (by omega) (by omega) (by omega) (by omega); have hm2 := mul_rng (A := 2050000) (B := 2050) (b := d.H i + s.kf) hm1.1 (by omega) (by omega) (by omega)
        refine ls_any hF (.free rfl) rfl rfl (ex_alloc (cs := [.int .i64 0, .int .i64 0, .int .i64 0]) rfl el_62 hS rfl) ?_; clear hF; rintro _ w ⟨g3, rfl, hS⟩ a hF
        replace hS : Sat w0 w [.blk g1 [vD, .int .i64 s.w, .int .i64 s.h, .int .i64 s.kf], .own vo1 3 60 d.n (dcells d.W d.H d.N), .blk g2 [.int .i64 fab1, .int .i64 fpb1, .int .i64 fbb1, .int .i64 fqb1], .blk g3 [.int .i64 0, .int .i64 0, .int .i64 0]] := hS
        refine ls_effx hF (.free rfl) rfl (st_blks 3 (ds := [.int .i64 (d.W i), .int .i64 (d.H i), .int .i64 (d.N i)]) rfl st_62 hS rfl rfl rfl rfl (ones_cons rfl (ones_cons rfl (ones_cons rfl ones_nil)))) ?_; clear hS; rintro w hS
        replace hS : Sat w0 w [.blk g1 [vD, .int .i64 s.w, .int .i64 s.h, .int .i64 s.kf], .own vo1 3 60 d.n (dcells d.W d.H d.N), .blk g2 [.int .i64 fab1, .int .i64 fpb1, .int .i64 fbb1, .int .i64 fqb1], .blk g3 [.int .i64 (d.W i), .int .i64 (d.H i), .int .i64 (d.N i)]] := hS
        refine ls_nil ?_
        refine then_normal ?_
        refine cw_seq ?_
        refine wp_region_lit ?_
        refine ls_val hF (.free rfl) rfl rfl (ex_move rfl rfl) ?_; clear hF a; intro a hF
        refine ls_val hF (.free rfl) rfl rfl (ex_field (b := ⟨g3, 2, none⟩) rfl fd_62_2 rfl rfl) ?_; clear hF a; intro a hF
        refine ls_val hF (.free rfl) rfl rfl (ex_load_blk 3 rfl pl_3 rfl hS rfl rfl) ?_; clear hF a; intro a hF
        refine ls_val hF (.free rfl) rfl rfl (ex_field (b := ⟨g3, 0, none⟩) rfl fd_62_0 rfl rfl) ?_; clear hF a; intro a hF
        refine ls_val hF (.free rfl) rfl rfl (ex_load_blk 3 rfl pl_3 rfl hS rfl rfl) ?_; clear hF a; intro a hF
        refine ls_val hF (.free rfl) rfl rfl (ex_field (b := ⟨g1, 3, none⟩) rfl fd_24_3 rfl rfl) ?_; clear hF a; intro a hF
        refine ls_val hF (.free rfl) rfl rfl (ex_load_blk 0 rfl pl_3 rfl hS rfl rfl) ?_; clear hF a; intro a hF
        refine ls_val hF (.free rfl) rfl rfl (ex_add (r := (d.W i) + s.kf) rfl rfl rfl (by omega) (by unfold I64; omega)) ?_; clear hF a; intro a hF
        refine ls_val hF (.free rfl) rfl rfl (ex_mul (r := ((d.N i) * ((d.W i) + s.kf))) rfl rfl rfl rfl (by unfold I64; omega)) ?_; clear hF a; intro a hF
        refine ls_val hF (.free rfl) rfl rfl (ex_field (b := ⟨g3, 1, none⟩) rfl fd_62_1 rfl rfl) ?_; clear hF a; intro a hF
        refine ls_val hF (.free rfl) rfl rfl (ex_load_blk 3 rfl pl_3 rfl hS rfl rfl) ?_; clear hF a; intro a hF
        refine ls_val hF (.free rfl) rfl rfl (ex_field (b := ⟨g1, 3, none⟩) rfl fd_24_3 rfl rfl) ?_; clear hF a; intro a hF
        refine ls_val hF (.free rfl) rfl rfl (ex_load_blk 0 rfl pl_3 rfl hS rfl rfl) ?_; clear hF a; intro a hF
        refine ls_val hF (.free rfl) rfl rfl (ex_add (r := (d.H i) + s.kf) rfl rfl rfl (by omega) (by unfold I64; omega)) ?_; clear hF a; intro a hF
        refine ls_val hF (.free rfl) rfl rfl (ex_mul (r := (((d.N i) * ((d.W i) + s.kf)) * ((d.H i) + s.kf))) rfl rfl rfl rfl (by unfold I64; omega)) ?_; clear hF a; intro a hF
        refine ls_val hF (.free rfl) rfl rfl (ex_add (r := t + (((d.N i) * ((d.W i) + s.kf)) * ((d.H i) + s.kf))) rfl rfl rfl (by omega) (by unfold I64; omega)) ?_; clear hF a; intro a hF
        refine ls_val hF (.free rfl) rfl rfl (ex_assign rfl rfl) ?_; clear hF a; intro a hF
        obtain ⟨hk, hng, hcA, hcB, hBo⟩ := hrb1.ok (by omega)
        have b2 := hk.w1
        have b3 := hk.w2
        have b4 := hk.h1
        have b5 := hk.h2
        have b6 := hk.k1
        have b7 := hk.k2
        have b8 := hk.few
        refine ls_nil ?_
        refine then_normal ?_
        refine cw_seq ?_
        refine wp_region_lit ?_
        refine ls_val hF (.free rfl) rfl rfl (ex_field (b := ⟨g3, 0, none⟩) rfl fd_62_0 rfl rfl) ?_; clear hF a; intro a hF
        refine ls_val hF (.free rfl) rfl rfl (ex_load_blk 3 rfl pl_3 rfl hS rfl rfl) ?_; clear hF a; intro a hF
        refine ls_val hF (.free rfl) rfl rfl (ex_field (b := ⟨g1, 3, none⟩) rfl fd_24_3 rfl rfl) ?_; clear hF a; intro a hF
        refine ls_val hF (.free rfl) rfl rfl (ex_load_blk 0 rfl pl_3 rfl hS rfl rfl) ?_; clear hF a; intro a hF
        refine ls_val hF (.free rfl) rfl rfl (ex_add (r := (d.W i) + s.kf) rfl rfl rfl (by omega) (by unfold I64; omega)) ?_; clear hF a; intro a hF
        refine ls_val hF (.free rfl) rfl rfl (ex_mul (r := 2 * (d.W i) + 2 * s.kf) rfl rfl rfl (by omega) (by unfold I64; omega)) ?_; clear hF a; intro a hF
        refine ls_val hF (.free rfl) rfl rfl (ex_move rfl rfl) ?_; clear hF a; intro a hF
        refine ls_val hF (.free rfl) rfl rfl (ex_gtr rfl rfl rfl) ?_; clear hF a; intro a hF
        refine ls_val hF (.free rfl) rfl rfl (ex_move rfl rfl) ?_; clear hF a; intro a hF
        refine by_slot hF (d := 77) rfl ?_ ?_ <;> clear hF <;> intro hc hF
        ·
         refine ls_val hF (.on rfl rfl rfl rfl rfl) rfl rfl (ex_field (b := ⟨g3, 1, none⟩) rfl fd_62_1 rfl rfl) ?_; clear hF a; intro a hF
         refine ls_val hF (.on rfl rfl rfl rfl rfl) rfl rfl (ex_load_blk 3 rfl pl_3 rfl hS rfl rfl) ?_; clear hF a; intro a hF
         refine ls_val hF (.on rfl rfl rfl rfl rfl) rfl rfl (ex_field (b := ⟨g1, 3, none⟩) rfl fd_24_3 rfl rfl) ?_; clear hF a; intro a hF
         refine ls_val hF (.on rfl rfl rfl rfl rfl) rfl rfl (ex_load_blk 0 rfl pl_3 rfl hS rfl rfl) ?_; clear hF a; intro a hF
         refine ls_val hF (.on rfl rfl rfl rfl rfl) rfl rfl (ex_add (r := (d.H i) + s.kf) rfl rfl rfl (by omega) (by unfold I64; omega)) ?_; clear hF a; intro a hF
         refine ls_val hF (.on rfl rfl rfl rfl rfl) rfl rfl (ex_mul (r := 2 * (d.H i) + 2 * s.kf) rfl rfl rfl (by omega) (by unfold I64; omega)) ?_; clear hF a; intro a hF
         refine ls_val hF (.on rfl rfl rfl rfl rfl) rfl rfl (ex_move rfl rfl) ?_; clear hF a; intro a hF
         refine ls_val hF (.on rfl rfl rfl rfl rfl) rfl rfl (ex_gtr rfl rfl rfl) ?_; clear hF a; intro a hF
         refine ls_val hF (.free rfl) rfl rfl (ex_pick_t rfl rfl rfl) ?_; clear hF a; intro a hF
         refine ls_nil ?_
         refine then_normal ?_
         refine cw_if hF rfl (fun hc => ?_) (fun hc => ?_)
         ·
          refine wp_region_lit ?_
          refine ls_val hF (.free rfl) rfl rfl (ex_move rfl rfl) ?_; clear hF a; intro a hF
          refine ls_val hF (.free rfl) rfl rfl (ex_field (b := ⟨g3, 2, none⟩) rfl fd_62_2 rfl rfl) ?_; clear hF a; intro a hF
          refine ls_val hF (.free rfl) rfl rfl (ex_load_blk 3 rfl pl_3 rfl hS rfl rfl) ?_; clear hF a; intro a hF
          refine ls_val hF (.free rfl) rfl rfl (ex_add (r := u + (d.N i)) rfl rfl rfl (by omega) (by unfold I64; omega)) ?_; clear hF a; intro a hF
          refine ls_val hF (.free rfl) rfl rfl (ex_assign rfl rfl) ?_; clear hF a; intro a hF
          refine ls_nil ?_
          refine inb_normal ?_
          refine then_normal ?_
          refine wp_region_lit ?_
          refine ls_val hF (.free rfl) rfl rfl (ex_add (r := i + 1) rfl rfl rfl (by omega) (by unfold I64; omega)) ?_; clear hF a; intro a hF
          refine ls_val hF (.free rfl) rfl rfl (ex_move rfl rfl) ?_; clear hF a; intro a hF
          refine ls_nil ?_
          refine then_normal ?_
          refine ⟨_, (by omega), t + (((d.N i) * ((d.W i) + s.kf)) * ((d.H i) + s.kf)), u + (d.N i), i + 1, rfl, (by omega), (by omega), ?_, ?_, (by omega), (by omega), (hF.pick (hF.pick (hF.pick (hF.pick (hF.pick (hF.pick (hF.pick (hF.pick (hF.pick (hF.pick hF.nil 49 rfl) 48 rfl) 47 rfl) 9 rfl) 8 rfl) 7 rfl) 6 rfl) 3 rfl) 2 rfl) 1 rfl), hS.sub (.cons_cons _ (.cons_cons _ (.cons_cons _ (.cons _ .slnil))))⟩
          ·
           rw [sumTo_next _ h0, ← hta]; rfl
          ·
           rw [sumTo_next _ h0, ← htg]; unfold greats; first | (rw [if_pos (by omega)]; done) | (rw [if_neg (by omega)]; omega)
         ·
          refine wp_skip ?_
          refine inb_normal ?_
          refine then_normal ?_
          refine wp_region_lit ?_
          refine ls_val hF (.free rfl) rfl rfl (ex_add (r := i + 1) rfl rfl rfl (by omega) (by unfold I64; omega)) ?_; clear hF a; intro a hF
          refine ls_val hF (.free rfl) rfl rfl (ex_move rfl rfl) ?_; clear hF a; intro a hF
          refine ls_nil ?_
          refine then_normal ?_
          refine ⟨_, (by omega), t + (((d.N i) * ((d.W i) + s.kf)) * ((d.H i) + s.kf)), u, i + 1, rfl, (by omega), (by omega), ?_, ?_, (by omega), (by omega), (hF.pick (hF.pick (hF.pick (hF.pick (hF.pick (hF.pick (hF.pick (hF.pick (hF.pick (hF.pick hF.nil 49 rfl) 48 rfl) 47 rfl) 9 rfl) 8 rfl) 7 rfl) 6 rfl) 3 rfl) 2 rfl) 1 rfl), hS.sub (.cons_cons _ (.cons_cons _ (.cons_cons _ (.cons _ .slnil))))⟩
          ·
           rw [sumTo_next _ h0, ← hta]; rfl
          ·
           rw [sumTo_next _ h0, ← htg]; unfold greats; first | (rw [if_pos (by omega)]; done) | (rw [if_neg (by omega)]; omega)
        ·
         refine ls_off hF (.on rfl rfl rfl rfl rfl) rfl rfl ?_; clear hF a; intro a hF
         refine ls_off hF (.on rfl rfl rfl rfl rfl) rfl rfl ?_; clear hF a; intro a hF
         refine ls_off hF (.on rfl rfl rfl rfl rfl) rfl rfl ?_; clear hF a; intro a hF
         refine ls_off hF (.on rfl rfl rfl rfl rfl) rfl rfl ?_; clear hF a; intro a hF
         refine ls_off hF (.on rfl rfl rfl rfl rfl) rfl rfl ?_; clear hF a; intro a hF
         refine ls_off hF (.on rfl rfl rfl rfl rfl) rfl rfl ?_; clear hF a; intro a hF
         refine ls_off hF (.on rfl rfl rfl rfl rfl) rfl rfl ?_; clear hF a; intro a hF
         refine ls_off hF (.on rfl rfl rfl rfl rfl) rfl rfl ?_; clear hF a; intro a hF
         refine ls_val hF (.free rfl) rfl rfl (ex_pick_f rfl rfl rfl) ?_; clear hF a; intro a hF
         refine ls_nil ?_
         refine then_normal ?_
         refine cw_f hF rfl ?_
         refine wp_skip ?_
         refine inb_normal ?_
         refine then_normal ?_
         refine wp_region_lit ?_
         refine ls_val hF (.free rfl) rfl rfl (ex_add (r := i + 1) rfl rfl rfl (by omega) (by unfold I64; omega)) ?_; clear hF a; intro a hF
         refine ls_val hF (.free rfl) rfl rfl (ex_move rfl rfl) ?_; clear hF a; intro a hF
         refine ls_nil ?_
         refine then_normal ?_
         refine ⟨_, (by omega), t + (((d.N i) * ((d.W i) + s.kf)) * ((d.H i) + s.kf)), u, i + 1, rfl, (by omega), (by omega), ?_, ?_, (by omega), (by omega), (hF.pick (hF.pick (hF.pick (hF.pick (hF.pick (hF.pick (hF.pick (hF.pick (hF.pick (hF.pick hF.nil 49 rfl) 48 rfl) 47 rfl) 9 rfl) 8 rfl) 7 rfl) 6 rfl) 3 rfl) 2 rfl) 1 rfl), hS.sub (.cons_cons _ (.cons_cons _ (.cons_cons _ (.cons _ .slnil))))⟩
         ·
          rw [sumTo_next _ h0, ← hta]; rfl
         ·
          rw [sumTo_next _ h0, ← htg]; unfold greats; first | (rw [if_pos (by omega)]; done) | (rw [if_neg (by omega)]; omega)
       ·
        refine wp_exit ?_
        refine then_exit ?_
        refine then_exit ?_
        refine inb_hit ?_
        refine then_normal ?_
        refine cw_seq ?_
        refine wp_region_lit ?_
        refine ls_val hF (.free rfl) rfl rfl (ex_move rfl rfl) ?_; clear hF a; intro a hF
        obtain rfl : i = d.n := by omega
        have hbl := best_least hk hn hng hcA hcB hBo
        have hm3 := mul_rng (A := 20000) (B := 2050) (b := s.w + s.kf) hbl.2.2.1 hbl.2.2.2 (by omega) (by omega); have hm4 := mul_rng (A := 41000000) (B := 2050) (b := s.h + s.kf) hm3.1 (by omega) (by omega) (by omega)
        have hbl1 := hbl.1; have hbl2 := hbl.2.1; rw [← hta] at hbl1; rw [← htg] at hbl2
        refine ls_val hF (.free rfl) rfl rfl (ex_move rfl rfl) ?_; clear hF a; intro a hF
        refine ls_val hF (.free rfl) rfl rfl (ex_mul (r := (ab1 * (s.w + s.kf))) rfl rfl rfl rfl (by unfold I64; omega)) ?_; clear hF a; intro a hF
        refine ls_val hF (.free rfl) rfl rfl (ex_move rfl rfl) ?_; clear hF a; intro a hF
        refine ls_val hF (.free rfl) rfl rfl (ex_mul (r := ((ab1 * (s.w + s.kf)) * (s.h + s.kf))) rfl rfl rfl rfl (by unfold I64; omega)) ?_; clear hF a; intro a hF
        refine ls_val hF (.free rfl) rfl rfl (ex_move rfl rfl) ?_; clear hF a; intro a hF
        refine ls_val hF (.free rfl) rfl rfl (ex_geq rfl rfl rfl) ?_; clear hF a; intro a hF
        refine ls_val hF (.free rfl) rfl rfl (ex_move rfl rfl) ?_; clear hF a; intro a hF
        refine by_slot hF (d := 99) rfl ?_ ?_ <;> clear hF <;> intro hc hF
        ·
         refine ls_val hF (.on rfl rfl rfl rfl rfl) rfl rfl (ex_move rfl rfl) ?_; clear hF a; intro a hF
         refine ls_val hF (.on rfl rfl rfl rfl rfl) rfl rfl (ex_move rfl rfl) ?_; clear hF a; intro a hF
         refine ls_val hF (.on rfl rfl rfl rfl rfl) rfl rfl (ex_geq rfl rfl rfl) ?_; clear hF a; intro a hF
         refine ls_val hF (.free rfl) rfl rfl (ex_pick_t rfl rfl rfl) ?_; clear hF a; intro a hF
         refine ls_val hF (.free rfl) rfl rfl (ex_assign rfl rfl) ?_; clear hF a; intro a hF
         refine ls_nil ?_
         refine then_normal ?_
         refine wp_ret ?_
         refine (fin1 hF rfl rfl ⟨_, rfl, ?_⟩)
         exact ⟨(true_B (by omega)).symm, hS.sub (.cons _ (.cons _ (.cons _ .slnil)))⟩
        ·
         refine ls_off hF (.on rfl rfl rfl rfl rfl) rfl rfl ?_; clear hF a; intro a hF
         refine ls_off hF (.on rfl rfl rfl rfl rfl) rfl rfl ?_; clear hF a; intro a hF
         refine ls_off hF (.on rfl rfl rfl rfl rfl) rfl rfl ?_; clear hF a; intro a hF
         refine ls_val hF (.free rfl) rfl rfl (ex_pick_f rfl rfl rfl) ?_; clear hF a; intro a hF
         refine ls_val hF (.free rfl) rfl rfl (ex_assign rfl rfl) ?_; clear hF a; intro a hF
         refine ls_nil ?_
         refine then_normal ?_
         refine wp_ret ?_
         refine (fin1 hF rfl rfl ⟨_, rfl, ?_⟩)
         exfalso; omega
    ·
     refine fk_any hF 14 rfl (.free rfl) rfl rfl (ex_alloc (cs := [.int .i64 0, .int .i64 0, .int .i64 0, .int .i64 0]) rfl el_36 hS rfl) ?_; clear hF hB; rintro _ w ⟨g2, rfl, hS⟩ a hF hcl
     replace hS : Sat w0 w [.blk g1 [vD, .int .i64 s.w, .int .i64 s.h, .int .i64 s.kf], .own vo1 3 60 d.n (dcells d.W d.H d.N), .blk g2 [.int .i64 0, .int .i64 0, .int .i64 0, .int .i64 0]] := hS
     refine ⟨⟨(fun _ => hS.sub (.cons_cons _ (.cons _ (.cons _ .slnil)))), hS.sub (.cons_cons _ (.cons _ (.cons _ .slnil)))⟩, fun hB => ?_⟩
     refine dr_call hF hcl 9 rfl (.free rfl) rfl rfl (by kernel_rfl) (ex_call0 rfl rfl cl_16 (args_cons rfl (args_cons rfl (args_cons rfl (args_cons rfl args0))))) (c_Best (d := d) (s := s) w (⟨(hS.rowN 1 rfl), hD.bw, hD.bh, hD.bn⟩ : DAt _ _ d.n d.W d.H d.N) hs) ?_; clear hF hB; rintro _ w ⟨ab1, fab1, fpb1, fbb1, fqb1, eb1, rfl, hrb1, hS'⟩ a hF hcl
     replace hS : Sat w0 w [.blk g1 [vD, .int .i64 s.w, .int .i64 s.h, .int .i64 s.kf], .own vo1 3 60 d.n (dcells d.W d.H d.N), .blk g2 [.int .i64 0, .int .i64 0, .int .i64 0, .int .i64 0]] := hS.comp hS'; clear hS'
     refine ⟨⟨(fun _ => hS.sub (.cons_cons _ (.cons _ (.cons _ .slnil)))), hS.sub (.cons_cons _ (.cons _ (.cons _ .slnil)))⟩, fun hB => ?_⟩
     refine dr_val hF hcl hB 10 rfl (.free rfl) rfl rfl (by kernel_rfl) rfl (fun w => (ex_move rfl rfl)) ?_; clear hF a hcl hB; intro a hF hcl hB
     refine dr_val hF hcl hB 11 rfl (.free rfl) rfl rfl (by kernel_rfl) rfl (fun w => (ex_extract rfl rfl rfl)) ?_; clear hF a hcl hB; intro a hF hcl hB
     refine dr_val hF hcl hB 12 rfl (.free rfl) rfl rfl (by kernel_rfl) rfl (fun w => (ex_extract rfl rfl rfl)) ?_; clear hF a hcl hB; intro a hF hcl hB
     refine dr_val hF hcl hB 13 rfl (.free rfl) rfl rfl (by kernel_rfl) rfl (fun w => (ex_extract rfl rfl rfl)) ?_; clear hF a hcl hB; intro a hF hcl hB
     refine dr_val hF hcl hB 15 rfl (.free rfl) rfl rfl (by kernel_rfl) rfl (fun w => (ex_assign rfl rfl)) ?_; clear hF a hcl hB; intro a hF hcl hB
     refine dr_effx hF hcl 16 rfl (.free rfl) rfl (by kernel_rfl) (st_blks 2 (ds := [.int .i64 fab1, .int .i64 fpb1, .int .i64 fbb1, .int .i64 fqb1]) rfl st_36 hS rfl rfl rfl rfl (ones_cons rfl (ones_cons rfl (ones_cons rfl (ones_cons rfl ones_nil))))) ?_; clear hS hB; rintro w hS hcl
     replace hS : Sat w0 w [.blk g1 [vD, .int .i64 s.w, .int .i64 s.h, .int .i64 s.kf], .own vo1 3 60 d.n (dcells d.W d.H d.N), .blk g2 [.int .i64 fab1, .int .i64 fpb1, .int .i64 fbb1, .int .i64 fqb1]] := hS
     refine ⟨⟨(fun h => absurd h (by decide)), hS.sub (.cons_cons _ (.cons _ (.cons _ .slnil)))⟩, fun hB => ?_⟩
     refine dr_val hF hcl hB 17 rfl (.free rfl) rfl rfl (by kernel_rfl) rfl (fun w => (ex_assign rfl rfl)) ?_; clear hF a hcl hB; intro a hF hcl hB
     refine dr_done (by kernel_rfl) ?_; clear hcl hB
     refine then_normal ?_
     refine cw_seq ?_
     refine cw_seq ?_
     refine wp_region_lit ?_
     refine ls_val hF (.free rfl) rfl rfl (ex_move rfl rfl) ?_; clear hF a; intro a hF
     refine ls_val hF (.free rfl) rfl rfl (ex_neq rfl rfl rfl) ?_; clear hF a; intro a hF
     refine ls_nil ?_
     refine then_normal ?_
     refine cw_if hF rfl (fun hc => ?_) (fun hc => ?_)
     ·
      refine cw_seq ?_
      refine wp_region_lit ?_
      refine ls_val hF (.free rfl) rfl rfl (ex_move rfl rfl) ?_; clear hF a; intro a hF
      have hz := hrb1.err (by omega)
      refine ls_val hF (.free rfl) rfl rfl (known_t (ex_eql rfl rfl rfl) (by omega)) ?_; clear hF a; intro a hF
      refine ls_val hF (.free rfl) rfl rfl (ex_assign rfl rfl) ?_; clear hF a; intro a hF
      refine ls_nil ?_
      refine then_normal ?_
      refine wp_ret ?_
      refine then_ret ((fin1 hF rfl rfl ⟨_, rfl, ?_⟩))
      exact ⟨rfl, hS.sub (.cons _ (.cons _ (.cons _ .slnil)))⟩
     ·
      refine wp_skip ?_
      refine then_normal ?_
      refine cw_seq ?_
      refine wp_region_lit ?_
      refine ls_val hF (.free rfl) rfl rfl (ex_assign rfl rfl) ?_; clear hF a; intro a hF
      obtain ⟨hk, hng, hcA, hcB, hBo⟩ := hrb1.ok (by omega)
      have b2 := hk.w1
      have b3 := hk.w2
      have b4 := hk.h1
      have b5 := hk.h2
      have b6 := hk.k1
      have b7 := hk.k2
      have b8 := hk.few
      refine ls_val hF (.free rfl) rfl rfl (ex_assign rfl rfl) ?_; clear hF a; intro a hF
      refine ls_nil ?_
      refine then_normal ?_
      refine cw_seq ?_
      refine dr_sat (m0 := [.blk g1 [vD, .int .i64 s.w, .int .i64 s.h, .int .i64 s.kf], .own vo1 3 60 d.n (dcells d.W d.H d.N), .blk g2 [.int .i64 fab1, .int .i64 fpb1, .int .i64 fbb1, .int .i64 fqb1]]) (m1 := [.blk g1 [vD, .int .i64 s.w, .int .i64 s.h, .int .i64 s.kf], .own vo1 3 60 d.n (dcells d.W d.H d.N), .blk g2 [.int .i64 fab1, .int .i64 fpb1, .int .i64 fbb1, .int .i64 fqb1]]) 1000 mx_ hS (.cons_cons _ (.cons_cons _ (.cons_cons _ .slnil))) (.cons_cons _ (.cons_cons _ (.cons_cons _ .slnil))) rfl ?_; clear hS; intro w hS hcl hB
      refine dr_val hF hcl hB 0 rfl (.free rfl) rfl rfl (by kernel_rfl) rfl (fun w => (ex_field (b := ⟨g1, 1, none⟩) rfl fd_24_1 rfl rfl)) ?_; clear hF a hcl hB; intro a hF hcl hB
      refine dr_loadA hF hcl hB 1 rfl (.free rfl) rfl rfl (by kernel_rfl) rfl (fun w hS => (ex_load_blk 0 rfl pl_3 rfl hS rfl rfl)) ?_; clear hF a hcl hB; intro a hF hcl hB
      refine dr_val hF hcl hB 2 rfl (.free rfl) rfl rfl (by kernel_rfl) rfl (fun w => (ex_field (b := ⟨g1, 3, none⟩) rfl fd_24_3 rfl rfl)) ?_; clear hF a hcl hB; intro a hF hcl hB
      refine dr_loadA hF hcl hB 3 rfl (.free rfl) rfl rfl (by kernel_rfl) rfl (fun w hS => (ex_load_blk 0 rfl pl_3 rfl hS rfl rfl)) ?_; clear hF a hcl hB; intro a hF hcl hB
      refine dr_val hF hcl hB 4 rfl (.free rfl) rfl rfl (by kernel_rfl) rfl (fun w => (ex_add (r := s.w + s.kf) rfl rfl rfl (by omega) (by unfold I64; omega))) ?_; clear hF a hcl hB; intro a hF hcl hB
      refine dr_val hF hcl hB 5 rfl (.free rfl) rfl rfl (by kernel_rfl) rfl (fun w => (ex_field (b := ⟨g1, 2, none⟩) rfl fd_24_2 rfl rfl)) ?_; clear hF a hcl hB; intro a hF hcl hB
      refine dr_loadA hF hcl hB 6 rfl (.free rfl) rfl rfl (by kernel_rfl) rfl (fun w hS => (ex_load_blk 0 rfl pl_3 rfl hS rfl rfl)) ?_; clear hF a hcl hB; intro a hF hcl hB
      refine dr_val hF hcl hB 7 rfl (.free rfl) rfl rfl (by kernel_rfl) rfl (fun w => (ex_field (b := ⟨g1, 3, none⟩) rfl fd_24_3 rfl rfl)) ?_; clear hF a hcl hB; intro a hF hcl hB
      refine dr_loadA hF hcl hB 8 rfl (.free rfl) rfl rfl (by kernel_rfl) rfl (fun w hS => (ex_load_blk 0 rfl pl_3 rfl hS rfl rfl)) ?_; clear hF a hcl hB; intro a hF hcl hB
      refine dr_val hF hcl hB 9 rfl (.free rfl) rfl rfl (by kernel_rfl) rfl (fun w => (ex_add (r := s.h + s.kf) rfl rfl rfl (by omega) (by unfold I64; omega))) ?_; clear hF a hcl hB; intro a hF hcl hB
      refine dr_val hF hcl hB 10 rfl (.free rfl) rfl rfl (by kernel_rfl) rfl (fun w => (ex_assign rfl rfl)) ?_; clear hF a hcl hB; intro a hF hcl hB
      refine dr_val hF hcl hB 11 rfl (.free rfl) rfl rfl (by kernel_rfl) rfl (fun w => (ex_assign rfl rfl)) ?_; clear hF a hcl hB; intro a hF hcl hB
      refine dr_done (by kernel_rfl) ?_; clear hcl hB
      refine then_normal ?_
      refine cw_seq ?_
      refine cw_seq ?_
      refine wp_region_lit ?_
      refine ls_val hF (.free rfl) rfl rfl (ex_field (b := ⟨g1, 0, none⟩) rfl fd_24_0 rfl rfl) ?_; clear hF a; intro a hF
      refine ls_val hF (.free rfl) rfl rfl (ex_load_blk 0 rfl pl_22 rfl hS rfl rfl) ?_; clear hF a; intro a hF
      refine ls_val hF (.free rfl) rfl rfl (ex_len rfl sl_22 rfl hD.row.slh) ?_; clear hF a; intro a hF
      refine ls_val hF (.free rfl) rfl rfl (ex_move rfl rfl) ?_; clear hF a; intro a hF
      refine ls_nil ?_
      refine then_normal ?_
      refine wp_block ?_
      refine cw_loop (fun mm a w => ∃ (t : Int) (u : Int) (i : Int), mm = ((d.n - i).toNat) ∧ (0 ≤ i) ∧ (i ≤ d.n) ∧ (t = sumTo (area d s) i.toNat) ∧ (u = sumTo (greats d s) i.toNat) ∧ (0 ≤ t ∧ t ≤ i * 4202500000) ∧ (0 ≤ u ∧ u ≤ i * 1000) ∧ Fr a 104 [(1, .pointer (some ⟨g1, 0, none⟩)), (2, .bool false), (3, .int .i64 ab1), (6, .int .i64 t), (7, .int .i64 u), (8, .int .i64 (s.w + s.kf)), (9, .int .i64 (s.h + s.kf)), (47, vD), (48, .int .i64 d.n), (49, .int .i64 i)] ∧ Sat w0 w [.blk g1 [vD, .int .i64 s.w, .int .i64 s.h, .int .i64 s.kf], .own vo1 3 60 d.n (dcells d.W d.H d.N), .blk g2 [.int .i64 fab1, .int .i64 fpb1, .int .i64 fbb1, .int .i64 fqb1]]) ?_ ?_ (m := ((d.n - 0).toNat))
      ·
       refine ⟨0, 0, 0, rfl, (by omega), (by omega), ?_, ?_, (by omega), (by omega), (hF.pick (hF.pick (hF.pick (hF.pick (hF.pick (hF.pick (hF.pick (hF.pick (hF.pick (hF.pick hF.nil 49 rfl) 48 rfl) 47 rfl) 9 rfl) 8 rfl) 7 rfl) 6 rfl) 3 rfl) 2 rfl) 1 rfl), hS⟩
       ·
        rfl
       ·
        rfl
      ·
       clear hF hS a w
       rintro mm a w ⟨t, u, i, rfl, h0, h1, hta, htg, ht0, hu0, hF, hS⟩
       refine cw_seq ?_
       refine wp_region_lit ?_
       refine ls_val hF (.free rfl) rfl rfl (ex_lss rfl rfl rfl) ?_; clear hF a; intro a hF
       refine ls_nil ?_
       refine then_normal ?_
       refine cw_seq ?_
       refine cw_if hF rfl (fun hc => ?_) (fun hc => ?_)
       ·
        refine wp_skip ?_
        refine then_normal ?_
        refine cw_seq ?_
        refine wp_block ?_
        refine cw_seq ?_
        refine wp_region_lit ?_
        refine ls_val hF (.free rfl) rfl rfl (ex_index (k := 3 * i) rfl sl_22 rfl rfl hD.row.slh (by omega) (by omega) (by omega)) ?_; clear hF a; intro a hF
        refine ls_val hF (.free rfl) rfl rfl (ex_loads_row (cs := [.int .i64 (d.W i), .int .i64 (d.H i), .int .i64 (d.N i)]) rfl st_62 rfl (hD.row.below hS.below) (by omega) (by omega) rfl (by omega) (dcells_at d.W d.H d.N (by omega))) ?_; clear hF a; intro a hF
        have hbv := hD.bw i
        have hbv := hD.bh i
        have hbv := hD.bn i
        have hei := hk.all i h0 (by omega); unfold Dem.each at hei; have hm1 := mul_rng (A := 1000) (B := 2050) (a := d.N i) (b := d.W i + s.kf) (by omega) (by omega) (by omega) (by omega); have hm2 := mul_rng (A := 2050000) (B := 2050) (b := d.H i + s.kf) hm1.1 (by omega) (by omega) (by omega)
        refine ls_any hF (.free rfl) rfl rfl (ex_alloc (cs := [.int .i64 0, .int .i64 0, .int .i64 0]) rfl el_62 hS rfl) ?_; clear hF; rintro _ w ⟨g3, rfl, hS⟩ a hF
        replace hS : Sat w0 w [.blk g1 [vD, .int .i64 s.w, .int .i64 s.h, .int .i64 s.kf], .own vo1 3 60 d.n (dcells d.W d.H d.N), .blk g2 [.int .i64 fab1, .int .i64 fpb1, .int .i64 fbb1, .int .i64 fqb1], .blk g3 [.int .i64 0, .int .i64 0, .int .i64 0]] := hS
        refine ls_effx hF (.free rfl) rfl (st_blks 3 (ds := [.int .i64 (d.W i), .int .i64 (d.H i), .int .i64 (d.N i)]) rfl st_62 hS rfl rfl rfl rfl (ones_cons rfl (ones_cons rfl (ones_cons rfl ones_nil)))) ?_; clear hS; rintro w hS
        replace hS : Sat w0 w [.blk g1 [vD, .int .i64 s.w, .int .i64 s.h, .int .i64 s.kf], .own vo1 3 60 d.n (dcells d.W d.H d.N), .blk g2 [.int .i64 fab1, .int .i64 fpb1, .int .i64 fbb1, .int .i64 fqb1], .blk g3 [.int .i64 (d.W i), .int .i64 (d.H i), .int .i64 (d.N i)]] := hS
        refine ls_nil ?_
        refine then_normal ?_
        refine cw_seq ?_
        refine wp_region_lit ?_
        refine ls_val hF (.free rfl) rfl rfl (ex_move rfl rfl) ?_; clear hF a; intro a hF
        refine ls_val hF (.free rfl) rfl rfl (ex_field (b := ⟨g3, 2, none⟩) rfl fd_62_2 rfl rfl) ?_; clear hF a; intro a hF
        refine ls_val hF (.free rfl) rfl rfl (ex_load_blk 3 rfl pl_3 rfl hS rfl rfl) ?_; clear hF a; intro a hF
        refine ls_val hF (.free rfl) rfl rfl (ex_field (b := ⟨g3, 0, none⟩) rfl fd_62_0 rfl rfl) ?_; clear hF a; intro a hF
        refine ls_val hF (.free rfl) rfl rfl (ex_load_blk 3 rfl pl_3 rfl hS rfl rfl) ?_; clear hF a; intro a hF
        refine ls_val hF (.free rfl) rfl rfl (ex_field (b := ⟨g1, 3, none⟩) rfl fd_24_3 rfl rfl) ?_; clear hF a; intro a hF
        refine ls_val hF (.free rfl) rfl rfl (ex_load_blk 0 rfl pl_3 rfl hS rfl rfl) ?_; clear hF a; intro a hF
        refine ls_val hF (.free rfl) rfl rfl (ex_add (r := (d.W i) + s.kf) rfl rfl rfl (by omega) (by unfold I64; omega)) ?_; clear hF a; intro a hF
        refine ls_val hF (.free rfl) rfl rfl (ex_mul (r := ((d.N i) * ((d.W i) + s.kf))) rfl rfl rfl rfl (by unfold I64; omega)) ?_; clear hF a; intro a hF
        refine ls_val hF (.free rfl) rfl rfl (ex_field (b := ⟨g3, 1, none⟩) rfl fd_62_1 rfl rfl) ?_; clear hF a; intro a hF
        refine ls_val hF (.free rfl) rfl rfl (ex_load_blk 3 rfl pl_3 rfl hS rfl rfl) ?_; clear hF a; intro a hF
        refine ls_val hF (.free rfl) rfl rfl (ex_field (b := ⟨g1, 3, none⟩) rfl fd_24_3 rfl rfl) ?_; clear hF a; intro a hF
        refine ls_val hF (.free rfl) rfl rfl (ex_load_blk 0 rfl pl_3 rfl hS rfl rfl) ?_; clear hF a; intro a hF
        refine ls_val hF (.free rfl) rfl rfl (ex_add (r := (d.H i) + s.kf) rfl rfl rfl (by omega) (by unfold I64; omega)) ?_; clear hF a; intro a hF
        refine ls_val hF (.free rfl) rfl rfl (ex_mul (r := (((d.N i) * ((d.W i) + s.kf)) * ((d.H i) + s.kf))) rfl rfl rfl rfl (by unfold I64; omega)) ?_; clear hF a; intro a hF
        refine ls_val hF (.free rfl) rfl rfl (ex_add (r := t + (((d.N i) * ((d.W i) + s.kf)) * ((d.H i) + s.kf))) rfl rfl rfl (by omega) (by unfold I64; omega)) ?_; clear hF a; intro a hF
        refine ls_val hF (.free rfl) rfl rfl (ex_assign rfl rfl) ?_; clear hF a; intro a hF
        obtain ⟨hk, hng, hcA, hcB, hBo⟩ := hrb1.ok (by omega)
        have b2 := hk.w1
        have b3 := hk.w2
        have b4 := hk.h1
        have b5 := hk.h2
        have b6 := hk.k1
        have b7 := hk.k2
        have b8 := hk.few
        refine ls_nil ?_
        refine then_normal ?_
        refine cw_seq ?_
        refine wp_region_lit ?_
        refine ls_val hF (.free rfl) rfl rfl (ex_field (b := ⟨g3, 0, none⟩) rfl fd_62_0 rfl rfl) ?_; clear hF a; intro a hF
        refine ls_val hF (.free rfl) rfl rfl (ex_load_blk 3 rfl pl_3 rfl hS rfl rfl) ?_; clear hF a; intro a hF
        refine ls_val hF (.free rfl) rfl rfl (ex_field (b := ⟨g1, 3, none⟩) rfl fd_24_3 rfl rfl) ?_; clear hF a; intro a hF
        refine ls_val hF (.free rfl) rfl rfl (ex_load_blk 0 rfl pl_3 rfl hS rfl rfl) ?_; clear hF a; intro a hF
        refine ls_val hF (.free rfl) rfl rfl (ex_add (r := (d.W i) + s.kf) rfl rfl rfl (by omega) (by unfold I64; omega)) ?_; clear hF a; intro a hF
        refine ls_val hF (.free rfl) rfl rfl (ex_mul (r := 2 * (d.W i) + 2 * s.kf) rfl rfl rfl (by omega) (by unfold I64; omega)) ?_; clear hF a; intro a hF
        refine ls_val hF (.free rfl) rfl rfl (ex_move rfl rfl) ?_; clear hF a; intro a hF
        refine ls_val hF (.free rfl) rfl rfl (ex_gtr rfl rfl rfl) ?_; clear hF a; intro a hF
        refine ls_val hF (.free rfl) rfl rfl (ex_move rfl rfl) ?_; clear hF a; intro a hF
        refine by_slot hF (d := 77) rfl ?_ ?_ <;> clear hF <;> intro hc hF
        ·
         refine ls_val hF (.on rfl rfl rfl rfl rfl) rfl rfl (ex_field (b := ⟨g3, 1, none⟩) rfl fd_62_1 rfl rfl) ?_; clear hF a; intro a hF
         refine ls_val hF (.on rfl rfl rfl rfl rfl) rfl rfl (ex_load_blk 3 rfl pl_3 rfl hS rfl rfl) ?_; clear hF a; intro a hF
         refine ls_val hF (.on rfl rfl rfl rfl rfl) rfl rfl (ex_field (b := ⟨g1, 3, none⟩) rfl fd_24_3 rfl rfl) ?_; clear hF a; intro a hF
         refine ls_val hF (.on rfl rfl rfl rfl rfl) rfl rfl (ex_load_blk 0 rfl pl_3 rfl hS rfl rfl) ?_; clear hF a; intro a hF
         refine ls_val hF (.on rfl rfl rfl rfl rfl) rfl rfl (ex_add (r := (d.H i) + s.kf) rfl rfl rfl (by omega) (by unfold I64; omega)) ?_; clear hF a; intro a hF
         refine ls_val hF (.on rfl rfl rfl rfl rfl) rfl rfl (ex_mul (r := 2 * (d.H i) + 2 * s.kf) rfl rfl rfl (by omega) (by unfold I64; omega)) ?_; clear hF a; intro a hF
         refine ls_val hF (.on rfl rfl rfl rfl rfl) rfl rfl (ex_move rfl rfl) ?_; clear hF a; intro a hF
         refine ls_val hF (.on rfl rfl rfl rfl rfl) rfl rfl (ex_gtr rfl rfl rfl) ?_; clear hF a; intro a hF
         refine ls_val hF (.free rfl) rfl rfl (ex_pick_t rfl rfl rfl) ?_; clear hF a; intro a hF
         refine ls_nil ?_
         refine then_normal ?_
         refine cw_if hF rfl (fun hc => ?_) (fun hc => ?_)
         ·
          refine wp_region_lit ?_
          refine ls_val hF (.free rfl) rfl rfl (ex_move rfl rfl) ?_; clear hF a; intro a hF
          refine ls_val hF (.free rfl) rfl rfl (ex_field (b := ⟨g3, 2, none⟩) rfl fd_62_2 rfl rfl) ?_; clear hF a; intro a hF
          refine ls_val hF (.free rfl) rfl rfl (ex_load_blk 3 rfl pl_3 rfl hS rfl rfl) ?_; clear hF a; intro a hF
          refine ls_val hF (.free rfl) rfl rfl (ex_add (r := u + (d.N i)) rfl rfl rfl (by omega) (by unfold I64; omega)) ?_; clear hF a; intro a hF
          refine ls_val hF (.free rfl) rfl rfl (ex_assign rfl rfl) ?_; clear hF a; intro a hF
          refine ls_nil ?_
          refine inb_normal ?_
          refine then_normal ?_
          refine wp_region_lit ?_
          refine ls_val hF (.free rfl) rfl rfl (ex_add (r := i + 1) rfl rfl rfl (by omega) (by unfold I64; omega)) ?_; clear hF a; intro a hF
          refine ls_val hF (.free rfl) rfl rfl (ex_move rfl rfl) ?_; clear hF a; intro a hF
          refine ls_nil ?_
          refine then_normal ?_
          refine ⟨_, (by omega), t + (((d.N i) * ((d.W i) + s.kf)) * ((d.H i) + s.kf)), u + (d.N i), i + 1, rfl, (by omega), (by omega), ?_, ?_, (by omega), (by omega), (hF.pick (hF.pick (hF.pick (hF.pick (hF.pick (hF.pick (hF.pick (hF.pick (hF.pick (hF.pick hF.nil 49 rfl) 48 rfl) 47 rfl) 9 rfl) 8 rfl) 7 rfl) 6 rfl) 3 rfl) 2 rfl) 1 rfl), hS.sub (.cons_cons _ (.cons_cons _ (.cons_cons _ (.cons _ .slnil))))⟩
          ·
           rw [sumTo_next _ h0, ← hta]; rfl
          ·
           rw [sumTo_next _ h0, ← htg]; unfold greats; first | (rw [if_pos (by omega)]; done) | (rw [if_neg (by omega)]; omega)
         ·
          refine wp_skip ?_
          refine inb_normal ?_
          refine then_normal ?_
          refine wp_region_lit ?_
          refine ls_val hF (.free rfl) rfl rfl (ex_add (r := i + 1) rfl rfl rfl (by omega) (by unfold I64; omega)) ?_; clear hF a; intro a hF
          refine ls_val hF (.free rfl) rfl rfl (ex_move rfl rfl) ?_; clear hF a; intro a hF
          refine ls_nil ?_
          refine then_normal ?_
          refine ⟨_, (by omega), t + (((d.N i) * ((d.W i) + s.kf)) * ((d.H i) + s.kf)), u, i + 1, rfl, (by omega), (by omega), ?_, ?_, (by omega), (by omega), (hF.pick (hF.pick (hF.pick (hF.pick (hF.pick (hF.pick (hF.pick (hF.pick (hF.pick (hF.pick hF.nil 49 rfl) 48 rfl) 47 rfl) 9 rfl) 8 rfl) 7 rfl) 6 rfl) 3 rfl) 2 rfl) 1 rfl), hS.sub (.cons_cons _ (.cons_cons _ (.cons_cons _ (.cons _ .slnil))))⟩
          ·
           rw [sumTo_next _ h0, ← hta]; rfl
          ·
           rw [sumTo_next _ h0, ← htg]; unfold greats; first | (rw [if_pos (by omega)]; done) | (rw [if_neg (by omega)]; omega)
        ·
         refine ls_off hF (.on rfl rfl rfl rfl rfl) rfl rfl ?_; clear hF a; intro a hF
         refine ls_off hF (.on rfl rfl rfl rfl rfl) rfl rfl ?_; clear hF a; intro a hF
         refine ls_off hF (.on rfl rfl rfl rfl rfl) rfl rfl ?_; clear hF a; intro a hF
         refine ls_off hF (.on rfl rfl rfl rfl rfl) rfl rfl ?_; clear hF a; intro a hF
         refine ls_off hF (.on rfl rfl rfl rfl rfl) rfl rfl ?_; clear hF a; intro a hF
         refine ls_off hF (.on rfl rfl rfl rfl rfl) rfl rfl ?_; clear hF a; intro a hF
         refine ls_off hF (.on rfl rfl rfl rfl rfl) rfl rfl ?_; clear hF a; intro a hF
         refine ls_off hF (.on rfl rfl rfl rfl rfl) rfl rfl ?_; clear hF a; intro a hF
         refine ls_val hF (.free rfl) rfl rfl (ex_pick_f rfl rfl rfl) ?_; clear hF a; intro a hF
         refine ls_nil ?_
         refine then_normal ?_
         refine cw_f hF rfl ?_
         refine wp_skip ?_
         refine inb_normal ?_
         refine then_normal ?_
         refine wp_region_lit ?_
         refine ls_val hF (.free rfl) rfl rfl (ex_add (r := i + 1) rfl rfl rfl (by omega) (by unfold I64; omega)) ?_; clear hF a; intro a hF
         refine ls_val hF (.free rfl) rfl rfl (ex_move rfl rfl) ?_; clear hF a; intro a hF
         refine ls_nil ?_
         refine then_normal ?_
         refine ⟨_, (by omega), t + (((d.N i) * ((d.W i) + s.kf)) * ((d.H i) + s.kf)), u, i + 1, rfl, (by omega), (by omega), ?_, ?_, (by omega), (by omega), (hF.pick (hF.pick (hF.pick (hF.pick (hF.pick (hF.pick (hF.pick (hF.pick (hF.pick (hF.pick hF.nil 49 rfl) 48 rfl) 47 rfl) 9 rfl) 8 rfl) 7 rfl) 6 rfl) 3 rfl) 2 rfl) 1 rfl), hS.sub (.cons_cons _ (.cons_cons _ (.cons_cons _ (.cons _ .slnil))))⟩
         ·
          rw [sumTo_next _ h0, ← hta]; rfl
         ·
          rw [sumTo_next _ h0, ← htg]; unfold greats; first | (rw [if_pos (by omega)]; done) | (rw [if_neg (by omega)]; omega)
       ·
        refine wp_exit ?_
        refine then_exit ?_
        refine then_exit ?_
        refine inb_hit ?_
        refine then_normal ?_
        refine cw_seq ?_
        refine wp_region_lit ?_
        refine ls_val hF (.free rfl) rfl rfl (ex_move rfl rfl) ?_; clear hF a; intro a hF
        obtain rfl : i = d.n := by omega
        have hbl := best_least hk hn hng hcA hcB hBo
        have hm3 := mul_rng (A := 20000) (B := 2050) (b := s.w + s.kf) hbl.2.2.1 hbl.2.2.2 (by omega) (by omega); have hm4 := mul_rng (A := 41000000) (B := 2050) (b := s.h + s.kf) hm3.1 (by omega) (by omega) (by omega)
        have hbl1 := hbl.1; have hbl2 := hbl.2.1; rw [← hta] at hbl1; rw [← htg] at hbl2
        refine ls_val hF (.free rfl) rfl rfl (ex_move rfl rfl) ?_; clear hF a; intro a hF
        refine ls_val hF (.free rfl) rfl rfl (ex_mul (r := (ab1 * (s.w + s.kf))) rfl rfl rfl rfl (by unfold I64; omega)) ?_; clear hF a; intro a hF
        refine ls_val hF (.free rfl) rfl rfl (ex_move rfl rfl) ?_; clear hF a; intro a hF
        refine ls_val hF (.free rfl) rfl rfl (ex_mul (r := ((ab1 * (s.w + s.kf)) * (s.h + s.kf))) rfl rfl rfl rfl (by unfold I64; omega)) ?_; clear hF a; intro a hF
        refine ls_val hF (.free rfl) rfl rfl (ex_move rfl rfl) ?_; clear hF a; intro a hF
        refine ls_val hF (.free rfl) rfl rfl (ex_geq rfl rfl rfl) ?_; clear hF a; intro a hF
        refine ls_val hF (.free rfl) rfl rfl (ex_move rfl rfl) ?_; clear hF a; intro a hF
        refine by_slot hF (d := 99) rfl ?_ ?_ <;> clear hF <;> intro hc hF
        ·
         refine ls_val hF (.on rfl rfl rfl rfl rfl) rfl rfl (ex_move rfl rfl) ?_; clear hF a; intro a hF
         refine ls_val hF (.on rfl rfl rfl rfl rfl) rfl rfl (ex_move rfl rfl) ?_; clear hF a; intro a hF
         refine ls_val hF (.on rfl rfl rfl rfl rfl) rfl rfl (ex_geq rfl rfl rfl) ?_; clear hF a; intro a hF
         refine ls_val hF (.free rfl) rfl rfl (ex_pick_t rfl rfl rfl) ?_; clear hF a; intro a hF
         refine ls_val hF (.free rfl) rfl rfl (ex_assign rfl rfl) ?_; clear hF a; intro a hF
         refine ls_nil ?_
         refine then_normal ?_
         refine wp_ret ?_
         refine (fin1 hF rfl rfl ⟨_, rfl, ?_⟩)
         exact ⟨(true_B (by omega)).symm, hS.sub (.cons _ (.cons _ (.cons _ .slnil)))⟩
        ·
         refine ls_off hF (.on rfl rfl rfl rfl rfl) rfl rfl ?_; clear hF a; intro a hF
         refine ls_off hF (.on rfl rfl rfl rfl rfl) rfl rfl ?_; clear hF a; intro a hF
         refine ls_off hF (.on rfl rfl rfl rfl rfl) rfl rfl ?_; clear hF a; intro a hF
         refine ls_val hF (.free rfl) rfl rfl (ex_pick_f rfl rfl rfl) ?_; clear hF a; intro a hF
         refine ls_val hF (.free rfl) rfl rfl (ex_assign rfl rfl) ?_; clear hF a; intro a hF
         refine ls_nil ?_
         refine then_normal ?_
         refine wp_ret ?_
         refine (fin1 hF rfl rfl ⟨_, rfl, ?_⟩)
         exfalso; omega
   ·
    refine fk_any hF 14 rfl (.free rfl) rfl rfl (ex_alloc (cs := [.int .i64 0, .int .i64 0, .int .i64 0, .int .i64 0]) rfl el_36 hS rfl) ?_; clear hF hB; rintro _ w ⟨g2, rfl, hS⟩ a hF hcl
    replace hS : Sat w0 w [.blk g1 [vD, .int .i64 s.w, .int .i64 s.h, .int .i64 s.kf], .blk g2 [.int .i64 0, .int .i64 0, .int .i64 0, .int .i64 0]] := hS
    refine ⟨⟨(fun _ => hS.sub (.cons_cons _ (.cons _ .slnil))), hS.sub (.cons_cons _ (.cons _ .slnil))⟩, fun hB => ?_⟩
    refine dr_call hF hcl 2 rfl (.free rfl) rfl rfl (by kernel_rfl) (ex_call0 rfl rfl cl_14 (args_cons rfl args0)) (c_own (d := d) w (hD.below hS.below) (by omega)) ?_; clear hF hB; rintro vo1 w ⟨_, rfl, hslo1, hS'⟩ a hF hcl
    replace hS : Sat w0 w [.blk g1 [vD, .int .i64 s.w, .int .i64 s.h, .int .i64 s.kf], .blk g2 [.int .i64 0, .int .i64 0, .int .i64 0, .int .i64 0], .own vo1 3 60 d.n (dcells d.W d.H d.N)] := hS.comp hS'; clear hS'
    refine ⟨⟨(fun _ => hS.sub (.cons_cons _ (.cons _ (.cons _ .slnil)))), hS.sub (.cons_cons _ (.cons _ (.cons _ .slnil)))⟩, fun hB => ?_⟩
    refine dr_call hF hcl 9 rfl (.free rfl) rfl rfl (by kernel_rfl) (ex_call0 rfl rfl cl_16 (args_cons rfl (args_cons rfl (args_cons rfl (args_cons rfl args0))))) (c_Best (d := d) (s := s) w (⟨(hS.rowN 2 rfl), hD.bw, hD.bh, hD.bn⟩ : DAt _ _ d.n d.W d.H d.N) hs) ?_; clear hF hB; rintro _ w ⟨ab1, fab1, fpb1, fbb1, fqb1, eb1, rfl, hrb1, hS'⟩ a hF hcl
    replace hS : Sat w0 w [.blk g1 [vD, .int .i64 s.w, .int .i64 s.h, .int .i64 s.kf], .blk g2 [.int .i64 0, .int .i64 0, .int .i64 0, .int .i64 0], .own vo1 3 60 d.n (dcells d.W d.H d.N)] := hS.comp hS'; clear hS'
    refine ⟨⟨(fun _ => hS.sub (.cons_cons _ (.cons _ (.cons _ .slnil)))), hS.sub (.cons_cons _ (.cons _ (.cons _ .slnil)))⟩, fun hB => ?_⟩
    refine dr_val hF hcl hB 10 rfl (.free rfl) rfl rfl (by kernel_rfl) rfl (fun w => (ex_move rfl rfl)) ?_; clear hF a hcl hB; intro a hF hcl hB
    refine dr_val hF hcl hB 11 rfl (.free rfl) rfl rfl (by kernel_rfl) rfl (fun w => (ex_extract rfl rfl rfl)) ?_; clear hF a hcl hB; intro a hF hcl hB
    refine dr_val hF hcl hB 12 rfl (.free rfl) rfl rfl (by kernel_rfl) rfl (fun w => (ex_extract rfl rfl rfl)) ?_; clear hF a hcl hB; intro a hF hcl hB
    refine dr_val hF hcl hB 13 rfl (.free rfl) rfl rfl (by kernel_rfl) rfl (fun w => (ex_extract rfl rfl rfl)) ?_; clear hF a hcl hB; intro a hF hcl hB
    refine dr_val hF hcl hB 15 rfl (.free rfl) rfl rfl (by kernel_rfl) rfl (fun w => (ex_assign rfl rfl)) ?_; clear hF a hcl hB; intro a hF hcl hB
    refine dr_effx hF hcl 16 rfl (.free rfl) rfl (by kernel_rfl) (st_blks 1 (ds := [.int .i64 fab1, .int .i64 fpb1, .int .i64 fbb1, .int .i64 fqb1]) rfl st_36 hS rfl rfl rfl rfl (ones_cons rfl (ones_cons rfl (ones_cons rfl (ones_cons rfl ones_nil))))) ?_; clear hS hB; rintro w hS hcl
    replace hS : Sat w0 w [.blk g1 [vD, .int .i64 s.w, .int .i64 s.h, .int .i64 s.kf], .blk g2 [.int .i64 fab1, .int .i64 fpb1, .int .i64 fbb1, .int .i64 fqb1], .own vo1 3 60 d.n (dcells d.W d.H d.N)] := hS
    refine ⟨⟨(fun h => absurd h (by decide)), hS.sub (.cons_cons _ (.cons _ (.cons _ .slnil)))⟩, fun hB => ?_⟩
    refine dr_val hF hcl hB 17 rfl (.free rfl) rfl rfl (by kernel_rfl) rfl (fun w => (ex_assign rfl rfl)) ?_; clear hF a hcl hB; intro a hF hcl hB
    refine dr_done (by kernel_rfl) ?_; clear hcl hB
    refine then_normal ?_
    refine cw_seq ?_
    refine cw_seq ?_
    refine wp_region_lit ?_
    refine ls_val hF (.free rfl) rfl rfl (ex_move rfl rfl) ?_; clear hF a; intro a hF
    refine ls_val hF (.free rfl) rfl rfl (ex_neq rfl rfl rfl) ?_; clear hF a; intro a hF
    refine ls_nil ?_
    refine then_normal ?_
    refine cw_if hF rfl (fun hc => ?_) (fun hc => ?_)
    ·
     refine cw_seq ?_
     refine wp_region_lit ?_
     refine ls_val hF (.free rfl) rfl rfl (ex_move rfl rfl) ?_; clear hF a; intro a hF
     have hz := hrb1.err (by omega)
     refine ls_val hF (.free rfl) rfl rfl (known_t (ex_eql rfl rfl rfl) (by omega)) ?_; clear hF a; intro a hF
     refine ls_val hF (.free rfl) rfl rfl (ex_assign rfl rfl) ?_; clear hF a; intro a hF
     refine ls_nil ?_
     refine then_normal ?_
     refine wp_ret ?_
     refine then_ret ((fin1 hF rfl rfl ⟨_, rfl, ?_⟩))
     exact ⟨rfl, hS.sub (.cons _ (.cons _ (.cons _ .slnil)))⟩
    ·
     refine wp_skip ?_
     refine then_normal ?_
     refine cw_seq ?_
     refine wp_region_lit ?_
     refine ls_val hF (.free rfl) rfl rfl (ex_assign rfl rfl) ?_; clear hF a; intro a hF
     obtain ⟨hk, hng, hcA, hcB, hBo⟩ := hrb1.ok (by omega)
     have b2 := hk.w1
     have b3 := hk.w2
     have b4 := hk.h1
     have b5 := hk.h2
     have b6 := hk.k1
     have b7 := hk.k2
     have b8 := hk.few
     refine ls_val hF (.free rfl) rfl rfl (ex_assign rfl rfl) ?_; clear hF a; intro a hF
     refine ls_nil ?_
     refine then_normal ?_
     refine cw_seq ?_
     refine dr_sat (m0 := [.blk g1 [vD, .int .i64 s.w, .int .i64 s.h, .int .i64 s.kf], .blk g2 [.int .i64 fab1, .int .i64 fpb1, .int .i64 fbb1, .int .i64 fqb1], .own vo1 3 60 d.n (dcells d.W d.H d.N)]) (m1 := [.blk g1 [vD, .int .i64 s.w, .int .i64 s.h, .int .i64 s.kf], .blk g2 [.int .i64 fab1, .int .i64 fpb1, .int .i64 fbb1, .int .i64 fqb1], .own vo1 3 60 d.n (dcells d.W d.H d.N)]) 1000 mx_ hS (.cons_cons _ (.cons_cons _ (.cons_cons _ .slnil))) (.cons_cons _ (.cons_cons _ (.cons_cons _ .slnil))) rfl ?_; clear hS; intro w hS hcl hB
     refine dr_val hF hcl hB 0 rfl (.free rfl) rfl rfl (by kernel_rfl) rfl (fun w => (ex_field (b := ⟨g1, 1, none⟩) rfl fd_24_1 rfl rfl)) ?_; clear hF a hcl hB; intro a hF hcl hB
     refine dr_loadA hF hcl hB 1 rfl (.free rfl) rfl rfl (by kernel_rfl) rfl (fun w hS => (ex_load_blk 0 rfl pl_3 rfl hS rfl rfl)) ?_; clear hF a hcl hB; intro a hF hcl hB
     refine dr_val hF hcl hB 2 rfl (.free rfl) rfl rfl (by kernel_rfl) rfl (fun w => (ex_field (b := ⟨g1, 3, none⟩) rfl fd_24_3 rfl rfl)) ?_; clear hF a hcl hB; intro a hF hcl hB
     refine dr_loadA hF hcl hB 3 rfl (.free rfl) rfl rfl (by kernel_rfl) rfl (fun w hS => (ex_load_blk 0 rfl pl_3 rfl hS rfl rfl)) ?_; clear hF a hcl hB; intro a hF hcl hB
     refine dr_val hF hcl hB 4 rfl (.free rfl) rfl rfl (by kernel_rfl) rfl (fun w => (ex_add (r := s.w + s.kf) rfl rfl rfl (by omega) (by unfold I64; omega))) ?_; clear hF a hcl hB; intro a hF hcl hB
     refine dr_val hF hcl hB 5 rfl (.free rfl) rfl rfl (by kernel_rfl) rfl (fun w => (ex_field (b := ⟨g1, 2, none⟩) rfl fd_24_2 rfl rfl)) ?_; clear hF a hcl hB; intro a hF hcl hB
     refine dr_loadA hF hcl hB 6 rfl (.free rfl) rfl rfl (by kernel_rfl) rfl (fun w hS => (ex_load_blk 0 rfl pl_3 rfl hS rfl rfl)) ?_; clear hF a hcl hB; intro a hF hcl hB
     refine dr_val hF hcl hB 7 rfl (.free rfl) rfl rfl (by kernel_rfl) rfl (fun w => (ex_field (b := ⟨g1, 3, none⟩) rfl fd_24_3 rfl rfl)) ?_; clear hF a hcl hB; intro a hF hcl hB
     refine dr_loadA hF hcl hB 8 rfl (.free rfl) rfl rfl (by kernel_rfl) rfl (fun w hS => (ex_load_blk 0 rfl pl_3 rfl hS rfl rfl)) ?_; clear hF a hcl hB; intro a hF hcl hB
     refine dr_val hF hcl hB 9 rfl (.free rfl) rfl rfl (by kernel_rfl) rfl (fun w => (ex_add (r := s.h + s.kf) rfl rfl rfl (by omega) (by unfold I64; omega))) ?_; clear hF a hcl hB; intro a hF hcl hB
     refine dr_val hF hcl hB 10 rfl (.free rfl) rfl rfl (by kernel_rfl) rfl (fun w => (ex_assign rfl rfl)) ?_; clear hF a hcl hB; intro a hF hcl hB
     refine dr_val hF hcl hB 11 rfl (.free rfl) rfl rfl (by kernel_rfl) rfl (fun w => (ex_assign rfl rfl)) ?_; clear hF a hcl hB; intro a hF hcl hB
     refine dr_done (by kernel_rfl) ?_; clear hcl hB
     refine then_normal ?_
     refine cw_seq ?_
     refine cw_seq ?_
     refine wp_region_lit ?_
     refine ls_val hF (.free rfl) rfl rfl (ex_field (b := ⟨g1, 0, none⟩) rfl fd_24_0 rfl rfl) ?_; clear hF a; intro a hF
     refine ls_val hF (.free rfl) rfl rfl (ex_load_blk 0 rfl pl_22 rfl hS rfl rfl) ?_; clear hF a; intro a hF
     refine ls_val hF (.free rfl) rfl rfl (ex_len rfl sl_22 rfl hD.row.slh) ?_; clear hF a; intro a hF
     refine ls_val hF (.free rfl) rfl rfl (ex_move rfl rfl) ?_; clear hF a; intro a hF
     refine ls_nil ?_
     refine then_normal ?_
     refine wp_block ?_
     refine cw_loop (fun mm a w => ∃ (t : Int) (u : Int) (i : Int), mm = ((d.n - i).toNat) ∧ (0 ≤ i) ∧ (i ≤ d.n) ∧ (t = sumTo (area d s) i.toNat) ∧ (u = sumTo (greats d s) i.toNat) ∧ (0 ≤ t ∧ t ≤ i * 4202500000) ∧ (0 ≤ u ∧ u ≤ i * 1000) ∧ Fr a 104 [(1, .pointer (some ⟨g1, 0, none⟩)), (2, .bool false), (3, .int .i64 ab1), (6, .int .i64 t), (7, .int .i64 u), (8, .int .i64 (s.w + s.kf)), (9, .int .i64 (s.h + s.kf)), (47, vD), (48, .int .i64 d.n), (49, .int .i64 i)] ∧ Sat w0 w [.blk g1 [vD, .int .i64 s.w, .int .i64 s.h, .int .i64 s.kf], .blk g2 [.int .i64 fab1, .int .i64 fpb1, .int .i64 fbb1, .int .i64 fqb1], .own vo1 3 60 d.n (dcells d.W d.H d.N)]) ?_ ?_ (m := ((d.n - 0).toNat))
     ·
      refine ⟨0, 0, 0, rfl, (by omega), (by omega), ?_, ?_, (by omega), (by omega), (hF.pick (hF.pick (hF.pick (hF.pick (hF.pick (hF.pick (hF.pick (hF.pick (hF.pick (hF.pick hF.nil 49 rfl) 48 rfl) 47 rfl) 9 rfl) 8 rfl) 7 rfl) 6 rfl) 3 rfl) 2 rfl) 1 rfl), hS⟩
      ·
       rfl
      ·
       rfl
     ·
      clear hF hS a w
      rintro mm a w ⟨t, u, i, rfl, h0, h1, hta, htg, ht0, hu0, hF, hS⟩
      refine cw_seq ?_
      refine wp_region_lit ?_
      refine ls_val hF (.free rfl) rfl rfl (ex_lss rfl rfl rfl) ?_; clear hF a; intro a hF
      refine ls_nil ?_
      refine then_normal ?_
      refine cw_seq ?_
      refine cw_if hF rfl (fun hc => ?_) (fun hc => ?_)
      ·
       refine wp_skip ?_
       refine then_normal ?_
       refine cw_seq ?_
       refine wp_block ?_
       refine cw_seq ?_
       refine wp_region_lit ?_
       refine ls_val hF (.free rfl) rfl rfl (ex_index (k := 3 * i) rfl sl_22 rfl rfl hD.row.slh (by omega) (by omega) (by omega)) ?_; clear hF a; intro a hF
       refine ls_val hF (.free rfl) rfl rfl (ex_loads_row (cs := [.int .i64 (d.W i), .int .i64 (d.H i), .int .i64 (d.N i)]) rfl st_62 rfl (hD.row.below hS.below) (by omega) (by omega) rfl (by omega) (dcells_at d.W d.H d.N (by omega))) ?_; clear hF a; intro a hF
       have hbv := hD.bw i
       have hbv := hD.bh i
       have hbv := hD.bn i
       have hei := hk.all i h0 (by omega); unfold Dem.each at hei; have hm1 := mul_rng (A := 1000) (B := 2050) (a := d.N i) (b := d.W i + s.kf) (by omega) (by omega) (by omega) (by omega); have hm2 := mul_rng (A := 2050000) (B := 2050) (b := d.H i + s.kf) hm1.1 (by omega) (by omega) (by omega)
       refine ls_any hF (.free rfl) rfl rfl (ex_alloc (cs := [.int .i64 0, .int .i64 0, .int .i64 0]) rfl el_62 hS rfl) ?_; clear hF; rintro _ w ⟨g3, rfl, hS⟩ a hF
       replace hS : Sat w0 w [.blk g1 [vD, .int .i64 s.w, .int .i64 s.h, .int .i64 s.kf], .blk g2 [.int .i64 fab1, .int .i64 fpb1, .int .i64 fbb1, .int .i64 fqb1], .own vo1 3 60 d.n (dcells d.W d.H d.N), .blk g3 [.int .i64 0, .int .i64 0, .int .i64 0]] := hS
       refine ls_effx hF (.free rfl) rfl (st_blks 3 (ds := [.int .i64 (d.W i), .int .i64 (d.H i), .int .i64 (d.N i)]) rfl st_62 hS rfl rfl rfl rfl (ones_cons rfl (ones_cons rfl (ones_cons rfl ones_nil)))) ?_; clear hS; rintro w hS
       replace hS : Sat w0 w [.blk g1 [vD, .int .i64 s.w, .int .i64 s.h, .int .i64 s.kf], .blk g2 [.int .i64 fab1, .int .i64 fpb1, .int .i64 fbb1, .int .i64 fqb1], .own vo1 3 60 d.n (dcells d.W d.H d.N), .blk g3 [.int .i64 (d.W i), .int .i64 (d.H i), .int .i64 (d.N i)]] := hS
       refine ls_nil ?_
       refine then_normal ?_
       refine cw_seq ?_
       refine wp_region_lit ?_
       refine ls_val hF (.free rfl) rfl rfl (ex_move rfl rfl) ?_; clear hF a; intro a hF
       refine ls_val hF (.free rfl) rfl rfl (ex_field (b := ⟨g3, 2, none⟩) rfl fd_62_2 rfl rfl) ?_; clear hF a; intro a hF
       refine ls_val hF (.free rfl) rfl rfl (ex_load_blk 3 rfl pl_3 rfl hS rfl rfl) ?_; clear hF a; intro a hF
       refine ls_val hF (.free rfl) rfl rfl (ex_field (b := ⟨g3, 0, none⟩) rfl fd_62_0 rfl rfl) ?_; clear hF a; intro a hF
       refine ls_val hF (.free rfl) rfl rfl (ex_load_blk 3 rfl pl_3 rfl hS rfl rfl) ?_; clear hF a; intro a hF
       refine ls_val hF (.free rfl) rfl rfl (ex_field (b := ⟨g1, 3, none⟩) rfl fd_24_3 rfl rfl) ?_; clear hF a; intro a hF
       refine ls_val hF (.free rfl) rfl rfl (ex_load_blk 0 rfl pl_3 rfl hS rfl rfl) ?_; clear hF a; intro a hF
       refine ls_val hF (.free rfl) rfl rfl (ex_add (r := (d.W i) + s.kf) rfl rfl rfl (by omega) (by unfold I64; omega)) ?_; clear hF a; intro a hF
       refine ls_val hF (.free rfl) rfl rfl (ex_mul (r := ((d.N i) * ((d.W i) + s.kf))) rfl rfl rfl rfl (by unfold I64; omega)) ?_; clear hF a; intro a hF
       refine ls_val hF (.free rfl) rfl rfl (ex_field (b := ⟨g3, 1, none⟩) rfl fd_62_1 rfl rfl) ?_; clear hF a; intro a hF
       refine ls_val hF (.free rfl) rfl rfl (ex_load_blk 3 rfl pl_3 rfl hS rfl rfl) ?_; clear hF a; intro a hF
       refine ls_val hF (.free rfl) rfl rfl (ex_field (b := ⟨g1, 3, none⟩) rfl fd_24_3 rfl rfl) ?_; clear hF a; intro a hF
       refine ls_val hF (.free rfl) rfl rfl (ex_load_blk 0 rfl pl_3 rfl hS rfl rfl) ?_; clear hF a; intro a hF
       refine ls_val hF (.free rfl) rfl rfl (ex_add (r := (d.H i) + s.kf) rfl rfl rfl (by omega) (by unfold I64; omega)) ?_; clear hF a; intro a hF
       refine ls_val hF (.free rfl) rfl rfl (ex_mul (r := (((d.N i) * ((d.W i) + s.kf)) * ((d.H i) + s.kf))) rfl rfl rfl rfl (by unfold I64; omega)) ?_; clear hF a; intro a hF
       refine ls_val hF (.free rfl) rfl rfl (ex_add (r := t + (((d.N i) * ((d.W i) + s.kf)) * ((d.H i) + s.kf))) rfl rfl rfl (by omega) (by unfold I64; omega)) ?_; clear hF a; intro a hF
       refine ls_val hF (.free rfl) rfl rfl (ex_assign rfl rfl) ?_; clear hF a; intro a hF
       obtain ⟨hk, hng, hcA, hcB, hBo⟩ := hrb1.ok (by omega)
       have b2 := hk.w1
       have b3 := hk.w2
       have b4 := hk.h1
       have b5 := hk.h2
       have b6 := hk.k1
       have b7 := hk.k2
       have b8 := hk.few
       refine ls_nil ?_
       refine then_normal ?_
       refine cw_seq ?_
       refine wp_region_lit ?_
       refine ls_val hF (.free rfl) rfl rfl (ex_field (b := ⟨g3, 0, none⟩) rfl fd_62_0 rfl rfl) ?_; clear hF a; intro a hF
       refine ls_val hF (.free rfl) rfl rfl (ex_load_blk 3 rfl pl_3 rfl hS rfl rfl) ?_; clear hF a; intro a hF
       refine ls_val hF (.free rfl) rfl rfl (ex_field (b := ⟨g1, 3, none⟩) rfl fd_24_3 rfl rfl) ?_; clear hF a; intro a hF
       refine ls_val hF (.free rfl) rfl rfl (ex_load_blk 0 rfl pl_3 rfl hS rfl rfl) ?_; clear hF a; intro a hF
       refine ls_val hF (.free rfl) rfl rfl (ex_add (r := (d.W i) + s.kf) rfl rfl rfl (by omega) (by unfold I64; omega)) ?_; clear hF a; intro a hF
       refine ls_val hF (.free rfl) rfl rfl (ex_mul (r := 2 * (d.W i) + 2 * s.kf) rfl rfl rfl (by omega) (by unfold I64; omega)) ?_; clear hF a; intro a hF
       refine ls_val hF (.free rfl) rfl rfl (ex_move rfl rfl) ?_; clear hF a; intro a hF
       refine ls_val hF (.free rfl) rfl rfl (ex_gtr rfl rfl rfl) ?_; clear hF a; intro a hF
       refine ls_val hF (.free rfl) rfl rfl (ex_move rfl rfl) ?_; clear hF a; intro a hF
       refine by_slot hF (d := 77) rfl ?_ ?_ <;> clear hF <;> intro hc hF
       ·
        refine ls_val hF (.on rfl rfl rfl rfl rfl) rfl rfl (ex_field (b := ⟨g3, 1, none⟩) rfl fd_62_1 rfl rfl) ?_; clear hF a; intro a hF
        refine ls_val hF (.on rfl rfl rfl rfl rfl) rfl rfl (ex_load_blk 3 rfl pl_3 rfl hS rfl rfl) ?_; clear hF a; intro a hF
        refine ls_val hF (.on rfl rfl rfl rfl rfl) rfl rfl (ex_field (b := ⟨g1, 3, none⟩) rfl fd_24_3 rfl rfl) ?_; clear hF a; intro a hF
        refine ls_val hF (.on rfl rfl rfl rfl rfl) rfl rfl (ex_load_blk 0 rfl pl_3 rfl hS rfl rfl) ?_; clear hF a; intro a hF
        refine ls_val hF (.on rfl rfl rfl rfl rfl) rfl rfl (ex_add (r := (d.H i) + s.kf) rfl rfl rfl (by omega) (by unfold I64; omega)) ?_; clear hF a; intro a hF
        refine ls_val hF (.on rfl rfl rfl rfl rfl) rfl rfl (ex_mul (r := 2 * (d.H i) + 2 * s.kf) rfl rfl rfl (by omega) (by unfold I64; omega)) ?_; clear hF a; intro a hF
        refine ls_val hF (.on rfl rfl rfl rfl rfl) rfl rfl (ex_move rfl rfl) ?_; clear hF a; intro a hF
        refine ls_val hF (.on rfl rfl rfl rfl rfl) rfl rfl (ex_gtr rfl rfl rfl) ?_; clear hF a; intro a hF
        refine ls_val hF (.free rfl) rfl rfl (ex_pick_t rfl rfl rfl) ?_; clear hF a; intro a hF
        refine ls_nil ?_
        refine then_normal ?_
        refine cw_if hF rfl (fun hc => ?_) (fun hc => ?_)
        ·
         refine wp_region_lit ?_
         refine ls_val hF (.free rfl) rfl rfl (ex_move rfl rfl) ?_; clear hF a; intro a hF
         refine ls_val hF (.free rfl) rfl rfl (ex_field (b := ⟨g3, 2, none⟩) rfl fd_62_2 rfl rfl) ?_; clear hF a; intro a hF
         refine ls_val hF (.free rfl) rfl rfl (ex_load_blk 3 rfl pl_3 rfl hS rfl rfl) ?_; clear hF a; intro a hF
         refine ls_val hF (.free rfl) rfl rfl (ex_add (r := u + (d.N i)) rfl rfl rfl (by omega) (by unfold I64; omega)) ?_; clear hF a; intro a hF
         refine ls_val hF (.free rfl) rfl rfl (ex_assign rfl rfl) ?_; clear hF a; intro a hF
         refine ls_nil ?_
         refine inb_normal ?_
         refine then_normal ?_
         refine wp_region_lit ?_
         refine ls_val hF (.free rfl) rfl rfl (ex_add (r := i + 1) rfl rfl rfl (by omega) (by unfold I64; omega)) ?_; clear hF a; intro a hF
         refine ls_val hF (.free rfl) rfl rfl (ex_move rfl rfl) ?_; clear hF a; intro a hF
         refine ls_nil ?_
         refine then_normal ?_
         refine ⟨_, (by omega), t + (((d.N i) * ((d.W i) + s.kf)) * ((d.H i) + s.kf)), u + (d.N i), i + 1, rfl, (by omega), (by omega), ?_, ?_, (by omega), (by omega), (hF.pick (hF.pick (hF.pick (hF.pick (hF.pick (hF.pick (hF.pick (hF.pick (hF.pick (hF.pick hF.nil 49 rfl) 48 rfl) 47 rfl) 9 rfl) 8 rfl) 7 rfl) 6 rfl) 3 rfl) 2 rfl) 1 rfl), hS.sub (.cons_cons _ (.cons_cons _ (.cons_cons _ (.cons _ .slnil))))⟩
         ·
          rw [sumTo_next _ h0, ← hta]; rfl
         ·
          rw [sumTo_next _ h0, ← htg]; unfold greats; first | (rw [if_pos (by omega)]; done) | (rw [if_neg (by omega)]; omega)
        ·
         refine wp_skip ?_
         refine inb_normal ?_
         refine then_normal ?_
         refine wp_region_lit ?_
         refine ls_val hF (.free rfl) rfl rfl (ex_add (r := i + 1) rfl rfl rfl (by omega) (by unfold I64; omega)) ?_; clear hF a; intro a hF
         refine ls_val hF (.free rfl) rfl rfl (ex_move rfl rfl) ?_; clear hF a; intro a hF
         refine ls_nil ?_
         refine then_normal ?_
         refine ⟨_, (by omega), t + (((d.N i) * ((d.W i) + s.kf)) * ((d.H i) + s.kf)), u, i + 1, rfl, (by omega), (by omega), ?_, ?_, (by omega), (by omega), (hF.pick (hF.pick (hF.pick (hF.pick (hF.pick (hF.pick (hF.pick (hF.pick (hF.pick (hF.pick hF.nil 49 rfl) 48 rfl) 47 rfl) 9 rfl) 8 rfl) 7 rfl) 6 rfl) 3 rfl) 2 rfl) 1 rfl), hS.sub (.cons_cons _ (.cons_cons _ (.cons_cons _ (.cons _ .slnil))))⟩
         ·
          rw [sumTo_next _ h0, ← hta]; rfl
         ·
          rw [sumTo_next _ h0, ← htg]; unfold greats; first | (rw [if_pos (by omega)]; done) | (rw [if_neg (by omega)]; omega)
       ·
        refine ls_off hF (.on rfl rfl rfl rfl rfl) rfl rfl ?_; clear hF a; intro a hF
        refine ls_off hF (.on rfl rfl rfl rfl rfl) rfl rfl ?_; clear hF a; intro a hF
        refine ls_off hF (.on rfl rfl rfl rfl rfl) rfl rfl ?_; clear hF a; intro a hF
        refine ls_off hF (.on rfl rfl rfl rfl rfl) rfl rfl ?_; clear hF a; intro a hF
        refine ls_off hF (.on rfl rfl rfl rfl rfl) rfl rfl ?_; clear hF a; intro a hF
        refine ls_off hF (.on rfl rfl rfl rfl rfl) rfl rfl ?_; clear hF a; intro a hF
        refine ls_off hF (.on rfl rfl rfl rfl rfl) rfl rfl ?_; clear hF a; intro a hF
        refine ls_off hF (.on rfl rfl rfl rfl rfl) rfl rfl ?_; clear hF a; intro a hF
        refine ls_val hF (.free rfl) rfl rfl (ex_pick_f rfl rfl rfl) ?_; clear hF a; intro a hF
        refine ls_nil ?_
        refine then_normal ?_
        refine cw_f hF rfl ?_
        refine wp_skip ?_
        refine inb_normal ?_
        refine then_normal ?_
        refine wp_region_lit ?_
        refine ls_val hF (.free rfl) rfl rfl (ex_add (r := i + 1) rfl rfl rfl (by omega) (by unfold I64; omega)) ?_; clear hF a; intro a hF
        refine ls_val hF (.free rfl) rfl rfl (ex_move rfl rfl) ?_; clear hF a; intro a hF
        refine ls_nil ?_
        refine then_normal ?_
        refine ⟨_, (by omega), t + (((d.N i) * ((d.W i) + s.kf)) * ((d.H i) + s.kf)), u, i + 1, rfl, (by omega), (by omega), ?_, ?_, (by omega), (by omega), (hF.pick (hF.pick (hF.pick (hF.pick (hF.pick (hF.pick (hF.pick (hF.pick (hF.pick (hF.pick hF.nil 49 rfl) 48 rfl) 47 rfl) 9 rfl) 8 rfl) 7 rfl) 6 rfl) 3 rfl) 2 rfl) 1 rfl), hS.sub (.cons_cons _ (.cons_cons _ (.cons_cons _ (.cons _ .slnil))))⟩
        ·
         rw [sumTo_next _ h0, ← hta]; rfl
        ·
         rw [sumTo_next _ h0, ← htg]; unfold greats; first | (rw [if_pos (by omega)]; done) | (rw [if_neg (by omega)]; omega)
      ·
       refine wp_exit ?_
       refine then_exit ?_
       refine then_exit ?_
       refine inb_hit ?_
       refine then_normal ?_
       refine cw_seq ?_
       refine wp_region_lit ?_
       refine ls_val hF (.free rfl) rfl rfl (ex_move rfl rfl) ?_; clear hF a; intro a hF
       obtain rfl : i = d.n := by omega
       have hbl := best_least hk hn hng hcA hcB hBo
       have hm3 := mul_rng (A := 20000) (B := 2050) (b := s.w + s.kf) hbl.2.2.1 hbl.2.2.2 (by omega) (by omega); have hm4 := mul_rng (A := 41000000) (B := 2050) (b := s.h + s.kf) hm3.1 (by omega) (by omega) (by omega)
       have hbl1 := hbl.1; have hbl2 := hbl.2.1; rw [← hta] at hbl1; rw [← htg] at hbl2
       refine ls_val hF (.free rfl) rfl rfl (ex_move rfl rfl) ?_; clear hF a; intro a hF
       refine ls_val hF (.free rfl) rfl rfl (ex_mul (r := (ab1 * (s.w + s.kf))) rfl rfl rfl rfl (by unfold I64; omega)) ?_; clear hF a; intro a hF
       refine ls_val hF (.free rfl) rfl rfl (ex_move rfl rfl) ?_; clear hF a; intro a hF
       refine ls_val hF (.free rfl) rfl rfl (ex_mul (r := ((ab1 * (s.w + s.kf)) * (s.h + s.kf))) rfl rfl rfl rfl (by unfold I64; omega)) ?_; clear hF a; intro a hF
       refine ls_val hF (.free rfl) rfl rfl (ex_move rfl rfl) ?_; clear hF a; intro a hF
       refine ls_val hF (.free rfl) rfl rfl (ex_geq rfl rfl rfl) ?_; clear hF a; intro a hF
       refine ls_val hF (.free rfl) rfl rfl (ex_move rfl rfl) ?_; clear hF a; intro a hF
       refine by_slot hF (d := 99) rfl ?_ ?_ <;> clear hF <;> intro hc hF
       ·
        refine ls_val hF (.on rfl rfl rfl rfl rfl) rfl rfl (ex_move rfl rfl) ?_; clear hF a; intro a hF
        refine ls_val hF (.on rfl rfl rfl rfl rfl) rfl rfl (ex_move rfl rfl) ?_; clear hF a; intro a hF
        refine ls_val hF (.on rfl rfl rfl rfl rfl) rfl rfl (ex_geq rfl rfl rfl) ?_; clear hF a; intro a hF
        refine ls_val hF (.free rfl) rfl rfl (ex_pick_t rfl rfl rfl) ?_; clear hF a; intro a hF
        refine ls_val hF (.free rfl) rfl rfl (ex_assign rfl rfl) ?_; clear hF a; intro a hF
        refine ls_nil ?_
        refine then_normal ?_
        refine wp_ret ?_
        refine (fin1 hF rfl rfl ⟨_, rfl, ?_⟩)
        exact ⟨(true_B (by omega)).symm, hS.sub (.cons _ (.cons _ (.cons _ .slnil)))⟩
       ·
        refine ls_off hF (.on rfl rfl rfl rfl rfl) rfl rfl ?_; clear hF a; intro a hF
        refine ls_off hF (.on rfl rfl rfl rfl rfl) rfl rfl ?_; clear hF a; intro a hF
        refine ls_off hF (.on rfl rfl rfl rfl rfl) rfl rfl ?_; clear hF a; intro a hF
        refine ls_val hF (.free rfl) rfl rfl (ex_pick_f rfl rfl rfl) ?_; clear hF a; intro a hF
        refine ls_val hF (.free rfl) rfl rfl (ex_assign rfl rfl) ?_; clear hF a; intro a hF
        refine ls_nil ?_
        refine then_normal ?_
        refine wp_ret ?_
        refine (fin1 hF rfl rfl ⟨_, rfl, ?_⟩)
        exfalso; omega

end Go.Proofs.Ytmlfpniaknmmfaa
