/- The statement RectSheets: for every input that reads as data the call returns true, and each argument reads as it did. No condition. -/
import Derived.Test.YtmlfpniaknmmfaaRows
import Derived.Test.YtmlfpniaknmmfaaZ6
import Derived.Test.YtmlfpniaknmmfaaRt
import Derived.Test.YtmlfpniaknmmfaaRd
import Derived.ShutString
namespace Go.Proofs.Ytmlfpniaknmmfaa.rectSheets
open Go.ChangeShapes Go.WideShapes Go.ChangeAt Go.RowKit Go.Proofs.Gw Go.Joins
set_option linter.unusedVariables false

theorem own : ownKnob Try.prog.godebug = none := by kernel_rfl
theorem laidOut : laidOutB Try.prog = true := by kernel_rfl
theorem bytes54 : Try.prog.bytesOf 54 = 24 := by kernel_rfl
theorem bytes58 : Try.prog.bytesOf 58 = 24 := by kernel_rfl
theorem bytes84 : Try.prog.bytesOf 84 = 40 := by kernel_rfl
theorem cells26 : Try.prog.cellsOf 26 = 2 := by kernel_rfl
theorem cells28 : Try.prog.cellsOf 28 = 4 := by kernel_rfl
theorem cells3 : Try.prog.cellsOf 3 = 1 := by kernel_rfl
theorem cells4 : Try.prog.cellsOf 4 = 1 := by kernel_rfl
theorem cells50 : Try.prog.cellsOf 50 = 7 := by kernel_rfl
theorem cells54 : Try.prog.cellsOf 54 = 1 := by kernel_rfl
theorem cells58 : Try.prog.cellsOf 58 = 3 := by kernel_rfl
theorem cells84 : Try.prog.cellsOf 84 = 5 := by kernel_rfl

set_option maxRecDepth 100000 in
theorem lifted (os : Os) (started : os.Started) (H : Type) (enc : TypeId × Value → H) :
    ReturnsInHanded {} Try.checked os 5 .any (Rows.rectSheetsSpec.pre6 enc Try.prog Try.f5 Rows.rectSheetsRow.domain false) (Rows.rectSheetsSpec.post enc Try.prog Try.f5 false true false false) := by
  refine returnsInHanded_of_change_sized (C := Try.checked) own started (by kernel_rfl) Try.func5
    (ChangeSpec.witness6 (enc := enc) (C := Try.checked) false ⟨#[], #[.slice none 0 0, .slice none 0 0, .agg #[.int .i64 0, .int .i64 0, .int .i64 0, .int .i64 0, .int .i64 0, .int .i64 0, .int .i64 0]], []⟩ 8 (by kernel_rfl) (by kernel_rfl) (by kernel_rfl) (by kernel_rfl)) ?_
  intro W base args ds gs before hval0 hW _ hsz0 _
  have hsz : (DataW.weightsEach Try.prog (Try.f5.params.toList ++ Rows.rectSheetsSpec.plain.varTypes Try.prog) (ds ++ gs)).all (· ≤ reachBytes) = true := hsz0
  clear hsz0
  have hval : ∀ (j : Nat) t v, Try.f5.params[j]? = some t → args[j]? = some v → Value.okWide Try.prog W .any base t v := hval0
  have hW' := hW
  obtain ⟨p, q, hA0, hV, rfl, _, _⟩ := hW
  have hA : DataW.TrodAll enc Try.prog W 0 (fun _ => true) true Try.f5.params.toList args.toList ds p := hA0
  rw [Try.params5] at hA hval hsz
  obtain ⟨v0, vs0, d0, ds0, q0, r0, hargs, rfl, rfl, t0, hA0⟩ := trodAll_cons hA
  obtain ⟨v1, vs1, d1, ds1, q1, r1, rfl, rfl, rfl, t1, hA1⟩ := trodAll_cons hA0
  obtain ⟨v2, vs2, d2, ds2, q2, r2, rfl, rfl, rfl, t2, hA2⟩ := trodAll_cons hA1
  obtain ⟨rfl, rfl, rfl⟩ := trodAll_nil hA2
  obtain rfl : args = #[v0, v1, v2] := by cases args; simp_all
  obtain ⟨rfl, rfl⟩ := trodVars_none hV
  have k0 := t0
  have lt0 : ∀ x ∈ q0, x.block < W.heap.size := by obtain ⟨m, hm⟩ := k0; exact DataW.trod_lt m _ _ _ hm
  have sm0 := small_each hsz (j := 0) rfl rfl
  obtain ⟨sa0, sl0, sc0, rfl⟩ := okWide_slice Try.underlying47 (hval 0 47 v0 rfl rfl)
  have rd0 : Rd enc Try.prog W true 47 [.slice sa0 sl0 sc0] := Rd.arg t0 sm0
  obtain ⟨m0, c0, W0, H0, N0, rw0, re0, bw0, bh0, bn0⟩ := rd0.trip Try.underlying47 Try.underlying58 cells58 bytes58 (by omega) rfl rfl rfl cells3 cells3 cells3 Try.underlying3 Try.underlying3 Try.underlying3
  have a0 := DAt.of rw0 re0 bw0 bh0 bn0
  have k1 := t1
  have lt1 : ∀ x ∈ q1, x.block < W.heap.size := by obtain ⟨m, hm⟩ := k1; exact DataW.trod_lt m _ _ _ hm
  have sm1 := small_each hsz (j := 1) rfl rfl
  obtain ⟨sa1, sl1, sc1, rfl⟩ := okWide_slice Try.underlying48 (hval 1 48 v1 rfl rfl)
  have rd1 : Rd enc Try.prog W true 48 [.slice sa1 sl1 sc1] := Rd.arg t1 sm1
  obtain ⟨n1, vv1, tr1, a1⟩ := rd1.trees Try.underlying48 cells54 bytes54 (by omega) Try.underlying54 Try.underlying84 cells84 bytes84 (by omega) rfl rfl rfl rfl rfl  rfl rfl rfl rfl rfl  cells4 cells3 cells3 cells3 cells3 Try.underlying4 Try.underlying3 Try.underlying3 Try.underlying3 Try.underlying3
  have k2 := t2
  have lt2 : ∀ x ∈ q2, x.block < W.heap.size := by obtain ⟨m, hm⟩ := k2; exact DataW.trod_lt m _ _ _ hm
  have sm2 := small_each hsz (j := 2) rfl rfl
  obtain ⟨cs2, rfl, _⟩ := okWide_struct Try.underlying50 (hval 2 50 v2 rfl rfl)
  have rd2 : Rd enc Try.prog W true 50 cs2.toList := Rd.arg t2 sm2
  have rl2 := rd2.len Try.underlying50
  rw [cells50] at rl2
  obtain ⟨x2_0, x2_1, x2_2, x2_3, x2_4, x2_5, x2_6, hx2⟩ := list7 rl2
  obtain rfl := toList_inj hx2
  replace rd2 : Rd enc Try.prog W true 50 [x2_0, x2_1, x2_2, x2_3, x2_4, x2_5, x2_6] := rd2
  have rd20 : Rd enc Try.prog W true 3 [x2_0] := rd2.field Try.underlying50 0 rfl rfl cells3 rfl
  obtain ⟨i20, rfl, w20⟩ := rd20.intv Try.underlying3
  have b20 := wf_i64 w20
  have rd21 : Rd enc Try.prog W true 3 [x2_1] := rd2.field Try.underlying50 1 rfl rfl cells3 rfl
  obtain ⟨i21, rfl, w21⟩ := rd21.intv Try.underlying3
  have b21 := wf_i64 w21
  have rd22 : Rd enc Try.prog W true 3 [x2_2] := rd2.field Try.underlying50 2 rfl rfl cells3 rfl
  obtain ⟨i22, rfl, w22⟩ := rd22.intv Try.underlying3
  have b22 := wf_i64 w22
  have rd23 : Rd enc Try.prog W true 28 [x2_3, x2_4, x2_5, x2_6] := rd2.field Try.underlying50 3 rfl rfl cells28 rfl
  have rd230 : Rd enc Try.prog W true 26 [x2_3, x2_4] := rd23.field Try.underlying28 0 rfl rfl cells26 rfl
  have rd2300 : Rd enc Try.prog W true 3 [x2_3] := rd230.field Try.underlying26 0 rfl rfl cells3 rfl
  obtain ⟨i2300, rfl, w2300⟩ := rd2300.intv Try.underlying3
  have b2300 := wf_i64 w2300
  have rd2301 : Rd enc Try.prog W true 3 [x2_4] := rd230.field Try.underlying26 1 rfl rfl cells3 rfl
  obtain ⟨i2301, rfl, w2301⟩ := rd2301.intv Try.underlying3
  have b2301 := wf_i64 w2301
  have rd231 : Rd enc Try.prog W true 26 [x2_5, x2_6] := rd23.field Try.underlying28 1 rfl rfl cells26 rfl
  have rd2310 : Rd enc Try.prog W true 3 [x2_5] := rd231.field Try.underlying26 0 rfl rfl cells3 rfl
  obtain ⟨i2310, rfl, w2310⟩ := rd2310.intv Try.underlying3
  have b2310 := wf_i64 w2310
  have rd2311 : Rd enc Try.prog W true 3 [x2_6] := rd231.field Try.underlying26 1 rfl rfl cells3 rfl
  obtain ⟨i2311, rfl, w2311⟩ := rd2311.intv Try.underlying3
  have b2311 := wf_i64 w2311
  clear hA0 hval0
  refine (law_sheets (q := ⟨m0, W0, H0, N0⟩) (s := ⟨i20, i21, i22⟩) (x := ⟨i2300, i2301, i2310, i2311⟩) W a0 a1 ⟨b20, b21, b22⟩ ⟨b2300, b2301, b2310, b2311⟩).mono fun e W' he => ?_
  obtain ⟨v, rfl, rfl, hS⟩ := he
  have bel := hS.below
  exact ⟨_, rfl, _, _, _, [], _, [], hW', trodAll_mk1 (shut_bool Try.underlying4 _), (trodAll_cons_mk (Below.trod laidOut (by kernel_rfl) (of_decide_eq_true (by kernel_rfl)) k0 bel lt0) (trodAll_cons_mk (Below.trod laidOut (by kernel_rfl) (of_decide_eq_true (by kernel_rfl)) k1 bel lt1) (trodAll_cons_mk (Below.trod laidOut (by kernel_rfl) (of_decide_eq_true (by kernel_rfl)) k2 bel lt2) trodAll_mk0))), rfl, bel.frame _, fun h => by cases h⟩

theorem over : Rows.rectSheetsRow.holds Try.pinned (OpenSpec.ofChange Rows.rectSheetsSpec) :=
  OpenClaim.holds_of_wide 5 Try.f5 rfl rfl rfl rfl rfl rfl rfl ⟨rfl, rfl, rfl, rfl, rfl⟩ rfl rfl rfl rfl rfl (by kernel_rfl) Try.func5 (by kernel_rfl)
    (of_decide_eq_true (by kernel_rfl)) (by unfold Func.isWrapper; first | (rw [if_pos (by decide +kernel)]; kernel_rfl) | (rw [if_neg (by decide +kernel)]; exact ⟨rfl, rfl⟩))
    (fun os started H enc _ => lifted os started H enc)

/-- The statement. -/
theorem proved : Rows.RectSheetsSaid := over
#print axioms proved
end Go.Proofs.Ytmlfpniaknmmfaa.rectSheets
