/- The statement RectMore: for every input that reads as data the call returns true, and each argument reads as it did. No condition. -/
import Derived.Test.YtmlfpniaknmmfaaRows
import Derived.Test.YtmlfpniaknmmfaaW11
import Derived.Test.YtmlfpniaknmmfaaRd
import Derived.ShutString
namespace Go.Proofs.Ytmlfpniaknmmfaa.rectMore
open Go.ChangeShapes Go.WideShapes Go.ChangeAt Go.RowKit Go.Proofs.Gw Go.Joins
set_option linter.unusedVariables false

theorem own : ownKnob Try.prog.godebug = none := by kernel_rfl
theorem laidOut : laidOutB Try.prog = true := by kernel_rfl
theorem bytes62 : Try.prog.bytesOf 62 = 24 := by kernel_rfl
theorem cells22 : Try.prog.cellsOf 22 = 1 := by kernel_rfl
theorem cells24 : Try.prog.cellsOf 24 = 4 := by kernel_rfl
theorem cells26 : Try.prog.cellsOf 26 = 2 := by kernel_rfl
theorem cells28 : Try.prog.cellsOf 28 = 4 := by kernel_rfl
theorem cells3 : Try.prog.cellsOf 3 = 1 := by kernel_rfl
theorem cells5 : Try.prog.cellsOf 5 = 1 := by kernel_rfl
theorem cells62 : Try.prog.cellsOf 62 = 3 := by kernel_rfl
theorem cells63 : Try.prog.cellsOf 63 = 3 := by kernel_rfl

set_option maxRecDepth 100000 in
theorem lifted (os : Os) (started : os.Started) (H : Type) (enc : TypeId × Value → H) :
    ReturnsInHanded {} Try.checked os 7 .any (Rows.rectMoreSpec.pre6 enc Try.prog Try.f7 Rows.rectMoreRow.domain false) (Rows.rectMoreSpec.post enc Try.prog Try.f7 false true false false) := by
  refine returnsInHanded_of_change_sized (C := Try.checked) own started (by kernel_rfl) Try.func7
    (ChangeSpec.witness6 (enc := enc) (C := Try.checked) false ⟨#[], #[.agg #[.slice none 0 0, .int .i64 0, .int .i64 0, .int .i64 0], .agg #[.int .i64 0, .int .i64 0, .int .i64 0, .int .i64 0], .agg #[.int .u8 0, .int .u8 0, .int .u8 0]], []⟩ 8 (by kernel_rfl) (by kernel_rfl) (by kernel_rfl) (by kernel_rfl)) ?_
  intro W base args ds gs before hval0 hW _ hsz0 _
  have hsz : (DataW.weightsEach Try.prog (Try.f7.params.toList ++ Rows.rectMoreSpec.plain.varTypes Try.prog) (ds ++ gs)).all (· ≤ reachBytes) = true := hsz0
  clear hsz0
  have hval : ∀ (j : Nat) t v, Try.f7.params[j]? = some t → args[j]? = some v → Value.okWide Try.prog W .any base t v := hval0
  have hW' := hW
  obtain ⟨p, q, hA0, hV, rfl, _, _⟩ := hW
  have hA : DataW.TrodAll enc Try.prog W 0 (fun _ => true) true Try.f7.params.toList args.toList ds p := hA0
  rw [Try.params7] at hA hval hsz
  obtain ⟨v0, vs0, d0, ds0, q0, r0, hargs, rfl, rfl, t0, hA0⟩ := trodAll_cons hA
  obtain ⟨v1, vs1, d1, ds1, q1, r1, rfl, rfl, rfl, t1, hA1⟩ := trodAll_cons hA0
  obtain ⟨v2, vs2, d2, ds2, q2, r2, rfl, rfl, rfl, t2, hA2⟩ := trodAll_cons hA1
  obtain ⟨rfl, rfl, rfl⟩ := trodAll_nil hA2
  obtain rfl : args = #[v0, v1, v2] := by cases args; simp_all
  obtain ⟨rfl, rfl⟩ := trodVars_none hV
  have k0 := t0
  have lt0 : ∀ x ∈ q0, x.block < W.heap.size := by obtain ⟨m, hm⟩ := k0; exact DataW.trod_lt m _ _ _ hm
  have sm0 := small_each hsz (j := 0) rfl rfl
  obtain ⟨cs0, rfl, _⟩ := okWide_struct Try.underlying24 (hval 0 24 v0 rfl rfl)
  have rd0 : Rd enc Try.prog W true 24 cs0.toList := Rd.arg t0 sm0
  have rl0 := rd0.len Try.underlying24
  rw [cells24] at rl0
  obtain ⟨x0_0, x0_1, x0_2, x0_3, hx0⟩ := list4 rl0
  obtain rfl := toList_inj hx0
  replace rd0 : Rd enc Try.prog W true 24 [x0_0, x0_1, x0_2, x0_3] := rd0
  have rd00 : Rd enc Try.prog W true 22 [x0_0] := rd0.field Try.underlying24 0 rfl rfl cells22 rfl
  obtain ⟨m00, c00, W00, H00, N00, rw00, re00, bw00, bh00, bn00⟩ := rd00.trip Try.underlying22 Try.underlying62 cells62 bytes62 (by omega) rfl rfl rfl cells3 cells3 cells3 Try.underlying3 Try.underlying3 Try.underlying3
  have a00 := DAt.of rw00 re00 bw00 bh00 bn00
  have rd01 : Rd enc Try.prog W true 3 [x0_1] := rd0.field Try.underlying24 1 rfl rfl cells3 rfl
  obtain ⟨i01, rfl, w01⟩ := rd01.intv Try.underlying3
  have b01 := wf_i64 w01
  have rd02 : Rd enc Try.prog W true 3 [x0_2] := rd0.field Try.underlying24 2 rfl rfl cells3 rfl
  obtain ⟨i02, rfl, w02⟩ := rd02.intv Try.underlying3
  have b02 := wf_i64 w02
  have rd03 : Rd enc Try.prog W true 3 [x0_3] := rd0.field Try.underlying24 3 rfl rfl cells3 rfl
  obtain ⟨i03, rfl, w03⟩ := rd03.intv Try.underlying3
  have b03 := wf_i64 w03
  have k1 := t1
  have lt1 : ∀ x ∈ q1, x.block < W.heap.size := by obtain ⟨m, hm⟩ := k1; exact DataW.trod_lt m _ _ _ hm
  have sm1 := small_each hsz (j := 1) rfl rfl
  obtain ⟨cs1, rfl, _⟩ := okWide_struct Try.underlying28 (hval 1 28 v1 rfl rfl)
  have rd1 : Rd enc Try.prog W true 28 cs1.toList := Rd.arg t1 sm1
  have rl1 := rd1.len Try.underlying28
  rw [cells28] at rl1
  obtain ⟨x1_0, x1_1, x1_2, x1_3, hx1⟩ := list4 rl1
  obtain rfl := toList_inj hx1
  replace rd1 : Rd enc Try.prog W true 28 [x1_0, x1_1, x1_2, x1_3] := rd1
  have rd10 : Rd enc Try.prog W true 26 [x1_0, x1_1] := rd1.field Try.underlying28 0 rfl rfl cells26 rfl
  have rd100 : Rd enc Try.prog W true 3 [x1_0] := rd10.field Try.underlying26 0 rfl rfl cells3 rfl
  obtain ⟨i100, rfl, w100⟩ := rd100.intv Try.underlying3
  have b100 := wf_i64 w100
  have rd101 : Rd enc Try.prog W true 3 [x1_1] := rd10.field Try.underlying26 1 rfl rfl cells3 rfl
  obtain ⟨i101, rfl, w101⟩ := rd101.intv Try.underlying3
  have b101 := wf_i64 w101
  have rd11 : Rd enc Try.prog W true 26 [x1_2, x1_3] := rd1.field Try.underlying28 1 rfl rfl cells26 rfl
  have rd110 : Rd enc Try.prog W true 3 [x1_2] := rd11.field Try.underlying26 0 rfl rfl cells3 rfl
  obtain ⟨i110, rfl, w110⟩ := rd110.intv Try.underlying3
  have b110 := wf_i64 w110
  have rd111 : Rd enc Try.prog W true 3 [x1_3] := rd11.field Try.underlying26 1 rfl rfl cells3 rfl
  obtain ⟨i111, rfl, w111⟩ := rd111.intv Try.underlying3
  have b111 := wf_i64 w111
  have k2 := t2
  have lt2 : ∀ x ∈ q2, x.block < W.heap.size := by obtain ⟨m, hm⟩ := k2; exact DataW.trod_lt m _ _ _ hm
  have sm2 := small_each hsz (j := 2) rfl rfl
  obtain ⟨cs2, rfl, _⟩ := okWide_array Try.underlying63 (hval 2 63 v2 rfl rfl)
  have rd2 : Rd enc Try.prog W true 63 cs2.toList := Rd.arg t2 sm2
  have rl2 := rd2.lenA Try.underlying63
  rw [cells63] at rl2
  obtain ⟨x2_0, x2_1, x2_2, hx2⟩ := list3 rl2
  obtain rfl := toList_inj hx2
  replace rd2 : Rd enc Try.prog W true 63 [x2_0, x2_1, x2_2] := rd2
  have rd20 : Rd enc Try.prog W true 5 [x2_0] := rd2.elem Try.underlying63 0 (by omega) cells5 rfl
  obtain ⟨i20, rfl, w20⟩ := rd20.intv Try.underlying5
  have b20 := wf_u8 w20
  have rd21 : Rd enc Try.prog W true 5 [x2_1] := rd2.elem Try.underlying63 1 (by omega) cells5 rfl
  obtain ⟨i21, rfl, w21⟩ := rd21.intv Try.underlying5
  have b21 := wf_u8 w21
  have rd22 : Rd enc Try.prog W true 5 [x2_2] := rd2.elem Try.underlying63 2 (by omega) cells5 rfl
  obtain ⟨i22, rfl, w22⟩ := rd22.intv Try.underlying5
  have b22 := wf_u8 w22
  clear hA0 hval0
  refine (law_more (x := ⟨i100, i101, i110, i111⟩) (d := ⟨m00, W00, H00, N00⟩) (s := ⟨i01, i02, i03⟩) W a00 ⟨b01, b02, b03⟩ ⟨b100, b101, b110, b111⟩ b20 b21 b22).mono fun e W' he => ?_
  obtain ⟨v, rfl, rfl, hS⟩ := he
  have bel := hS.below
  exact ⟨_, rfl, _, _, _, [], _, [], hW', trodAll_mk1 (shut_bool Try.underlying4 _), (trodAll_cons_mk (Below.trod laidOut (by kernel_rfl) (of_decide_eq_true (by kernel_rfl)) k0 bel lt0) (trodAll_cons_mk (Below.trod laidOut (by kernel_rfl) (of_decide_eq_true (by kernel_rfl)) k1 bel lt1) (trodAll_cons_mk (Below.trod laidOut (by kernel_rfl) (of_decide_eq_true (by kernel_rfl)) k2 bel lt2) trodAll_mk0))), rfl, bel.frame _, fun h => by cases h⟩

theorem over : Rows.rectMoreRow.holds Try.pinned (OpenSpec.ofChange Rows.rectMoreSpec) :=
  OpenClaim.holds_of_wide 7 Try.f7 rfl rfl rfl rfl rfl rfl rfl ⟨rfl, rfl, rfl, rfl, rfl⟩ rfl rfl rfl rfl rfl (by kernel_rfl) Try.func7 (by kernel_rfl)
    (of_decide_eq_true (by kernel_rfl)) (by unfold Func.isWrapper; first | (rw [if_pos (by decide +kernel)]; kernel_rfl) | (rw [if_neg (by decide +kernel)]; exact ⟨rfl, rfl⟩))
    (fun os started H enc _ => lifted os started H enc)

/-- The statement. -/
theorem proved : Rows.RectMoreSaid := over
#print axioms proved
end Go.Proofs.Ytmlfpniaknmmfaa.rectMore
