/- The statement ResidualRound: for every input that reads as data the call returns true, and each argument reads as it did. No condition. -/
import Derived.Test.YtopmifmfecfaaaaRrE
import Derived.Test.YtopmifmfecfaaaaRows
import Derived.ShutString
set_option linter.unusedVariables false
set_option linter.unusedSimpArgs false
namespace Go.Proofs.Ytopmifmfecfaaaa.residualRound
open Go.ChangeShapes Go.WideShapes Go.ChangeAt Go.RowKit Go.Proofs.Gw Go.Joins
theorem own : ownKnob Try.prog.godebug = none := by kernel_rfl
theorem laidOut : laidOutB Try.prog = true := by kernel_rfl
theorem bytes22 : Try.prog.bytesOf 22 = 24 := by kernel_rfl
theorem bytes3 : Try.prog.bytesOf 3 = 8 := by kernel_rfl
theorem cells22 : Try.prog.cellsOf 22 = 1 := by kernel_rfl
theorem cells24 : Try.prog.cellsOf 24 = 4 := by kernel_rfl
theorem cells3 : Try.prog.cellsOf 3 = 1 := by kernel_rfl
theorem cells32 : Try.prog.cellsOf 32 = 1 := by kernel_rfl
theorem cells52 : Try.prog.cellsOf 52 = 4 := by kernel_rfl
theorem cells54 : Try.prog.cellsOf 54 = 5 := by kernel_rfl
set_option maxRecDepth 100000 in
theorem lifted (os : Os) (started : os.Started) (H : Type) (enc : TypeId × Value → H) :
    ReturnsInHanded {} Try.checked os 5 .any (Rows.residualRoundSpec.pre6 enc Try.prog Try.f5 Rows.residualRoundRow.domain false) (Rows.residualRoundSpec.post enc Try.prog Try.f5 false true false false) := by
  refine returnsInHanded_of_change_sized (C := Try.checked) own started (by kernel_rfl) Try.func5
    (ChangeSpec.witness6 (enc := enc) (C := Try.checked) false ⟨#[], #[.agg #[.slice none 0 0, .slice none 0 0, .int .i64 0, .int .i64 0], .agg #[.slice none 0 0, .slice none 0 0, .slice none 0 0, .int .i64 0, .int .i64 0]], []⟩ 8 (by kernel_rfl) (by kernel_rfl) (by kernel_rfl) (by kernel_rfl)) ?_
  intro W base args ds gs before hval0 hW _ hsz0 _
  have hsz : (DataW.weightsEach Try.prog (Try.f5.params.toList ++ Rows.residualRoundSpec.plain.varTypes Try.prog) (ds ++ gs)).all (· ≤ reachBytes) = true := hsz0
  clear hsz0
  have hval : ∀ (j : Nat) t v, Try.f5.params[j]? = some t → args[j]? = some v → Value.okWide Try.prog W .any base t v := hval0
  have hW' := hW
  obtain ⟨p, q, hA0, hV, rfl, _, _⟩ := hW
  have hA : DataW.TrodAll enc Try.prog W 0 (fun _ => true) true Try.f5.params.toList args.toList ds p := hA0
  rw [Try.params5] at hA hval hsz
  obtain ⟨v0, vs0, d0, ds0, q0, r0, hargs, rfl, rfl, t0, hA0⟩ := trodAll_cons hA
  obtain ⟨v1, vs1, d1, ds1, q1, r1, rfl, rfl, rfl, t1, hA1⟩ := trodAll_cons hA0
  obtain ⟨rfl, rfl, rfl⟩ := trodAll_nil hA1
  obtain rfl : args = #[v0, v1] := by cases args; simp_all
  obtain ⟨rfl, rfl⟩ := trodVars_none hV
  have k0 := t0
  have lt0 : ∀ x ∈ q0, x.block < W.heap.size := by obtain ⟨m, hm⟩ := k0; exact DataW.trod_lt m _ _ _ hm
  have sm0 := small_each hsz (j := 0) rfl rfl
  obtain ⟨cs0, rfl, _⟩ := okWide_struct Try.underlying24 (hval 0 24 v0 rfl rfl)
  have rd0 : Rd enc Try.prog W true 24 cs0.toList := Rd.arg t0 sm0
  have rl0 := rd0.len Try.underlying24
  rw [cells24] at rl0
  obtain ⟨x0_0, x0_1, x0_2, x0_3, hx0⟩ := list4 rl0
  obtain rfl := toList_inj hx0
  replace rd0 : Rd enc Try.prog W true 24 [x0_0, x0_1, x0_2, x0_3] := rd0
  have rd00 : Rd enc Try.prog W true 22 [x0_0] := rd0.field Try.underlying24 0 rfl rfl cells22 rfl
  obtain ⟨m00, f00, a00⟩ := rd00.ints Try.underlying22 Try.underlying3 cells3 bytes3
  have rd01 : Rd enc Try.prog W true 22 [x0_1] := rd0.field Try.underlying24 1 rfl rfl cells22 rfl
  obtain ⟨m01, f01, a01⟩ := rd01.ints Try.underlying22 Try.underlying3 cells3 bytes3
  have rd02 : Rd enc Try.prog W true 3 [x0_2] := rd0.field Try.underlying24 2 rfl rfl cells3 rfl
  obtain ⟨i02, rfl, w02⟩ := rd02.intv Try.underlying3
  have b02 := wf_i64 w02
  have rd03 : Rd enc Try.prog W true 3 [x0_3] := rd0.field Try.underlying24 3 rfl rfl cells3 rfl
  obtain ⟨i03, rfl, w03⟩ := rd03.intv Try.underlying3
  have b03 := wf_i64 w03
  have k1 := t1
  have lt1 : ∀ x ∈ q1, x.block < W.heap.size := by obtain ⟨m, hm⟩ := k1; exact DataW.trod_lt m _ _ _ hm
  have sm1 := small_each hsz (j := 1) rfl rfl
  obtain ⟨cs1, rfl, _⟩ := okWide_struct Try.underlying54 (hval 1 54 v1 rfl rfl)
  have rd1 : Rd enc Try.prog W true 54 cs1.toList := Rd.arg t1 sm1
  have rl1 := rd1.len Try.underlying54
  rw [cells54] at rl1
  obtain ⟨x1_0, x1_1, x1_2, x1_3, x1_4, hx1⟩ := list5 rl1
  obtain rfl := toList_inj hx1
  replace rd1 : Rd enc Try.prog W true 54 [x1_0, x1_1, x1_2, x1_3, x1_4] := rd1
  have rd10 : Rd enc Try.prog W true 32 [x1_0] := rd1.field Try.underlying54 0 rfl rfl cells32 rfl
  obtain ⟨m10, vv10, ln10, f10, a10⟩ := rd10.mat Try.underlying32 Try.underlying22 Try.underlying3 cells22 bytes22 cells3 bytes3
  have rd11 : Rd enc Try.prog W true 52 [x1_1, x1_2, x1_3, x1_4] := rd1.field Try.underlying54 1 rfl rfl cells52 rfl
  have rd110 : Rd enc Try.prog W true 22 [x1_1] := rd11.field Try.underlying52 0 rfl rfl cells22 rfl
  obtain ⟨m110, f110, a110⟩ := rd110.ints Try.underlying22 Try.underlying3 cells3 bytes3
  have rd111 : Rd enc Try.prog W true 22 [x1_2] := rd11.field Try.underlying52 1 rfl rfl cells22 rfl
  obtain ⟨m111, f111, a111⟩ := rd111.ints Try.underlying22 Try.underlying3 cells3 bytes3
  have rd112 : Rd enc Try.prog W true 3 [x1_3] := rd11.field Try.underlying52 2 rfl rfl cells3 rfl
  obtain ⟨i112, rfl, w112⟩ := rd112.intv Try.underlying3
  have b112 := wf_i64 w112
  have rd113 : Rd enc Try.prog W true 3 [x1_4] := rd11.field Try.underlying52 3 rfl rfl cells3 rfl
  obtain ⟨i113, rfl, w113⟩ := rd113.intv Try.underlying3
  have b113 := wf_i64 w113
  clear hA0 hval0
  refine (law_round (p := ⟨m00, f00, m01, f01, i02, i03⟩) (s := ⟨m110, m111, f110, f111, i112, i113⟩) W ⟨a00.1, a01.1, a00.2, a01.2, b02, b03⟩ a10 a110.1 a111.1).mono fun e W' he => ?_
  obtain ⟨v, rfl, rfl, hS⟩ := he
  have bel := hS.below
  exact ⟨_, rfl, _, _, _, [], _, [], hW', trodAll_mk1 (shut_bool Try.underlying4 _), (trodAll_cons_mk (Below.trod laidOut (by kernel_rfl) (of_decide_eq_true (by kernel_rfl)) k0 bel lt0) (trodAll_cons_mk (Below.trod laidOut (by kernel_rfl) (of_decide_eq_true (by kernel_rfl)) k1 bel lt1) trodAll_mk0)), rfl, bel.frame _, fun h => by cases h⟩
theorem over : Rows.residualRoundRow.holds Try.pinned (OpenSpec.ofChange Rows.residualRoundSpec) :=
  OpenClaim.holds_of_wide 5 Try.f5 rfl rfl rfl rfl rfl rfl rfl ⟨rfl, rfl, rfl, rfl, rfl⟩ rfl rfl rfl rfl rfl (by kernel_rfl) Try.func5 (by kernel_rfl)
    (of_decide_eq_true (by kernel_rfl)) (by unfold Func.isWrapper; first | (rw [if_pos (by decide +kernel)]; kernel_rfl) | (rw [if_neg (by decide +kernel)]; exact ⟨rfl, rfl⟩))
    (fun os started H enc _ => lifted os started H enc)
theorem proved : Rows.ResidualRoundSaid := over
#print axioms proved
end Go.Proofs.Ytopmifmfecfaaaa.residualRound
