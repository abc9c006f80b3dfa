/- The statement RectDual: for every input that reads as data the call returns true, and each argument reads as it did. No condition. -/
import Derived.Test.YtmlfpniaknmmfaaRows
import Derived.Test.YtmlfpniaknmmfaaW11
import Derived.Test.YtmlfpniaknmmfaaRd
import Derived.ShutString
namespace Go.Proofs.Ytmlfpniaknmmfaa.rectDual
open Go.ChangeShapes Go.WideShapes Go.ChangeAt Go.RowKit Go.Proofs.Gw Go.Joins
set_option linter.unusedVariables false

theorem own : ownKnob Try.prog.godebug = none := by kernel_rfl
theorem laidOut : laidOutB Try.prog = true := by kernel_rfl
theorem bytes69 : Try.prog.bytesOf 69 = 2 := by kernel_rfl
theorem cells26 : Try.prog.cellsOf 26 = 2 := by kernel_rfl
theorem cells3 : Try.prog.cellsOf 3 = 1 := by kernel_rfl
theorem cells69 : Try.prog.cellsOf 69 = 1 := by kernel_rfl

set_option maxRecDepth 100000 in
theorem lifted (os : Os) (started : os.Started) (H : Type) (enc : TypeId × Value → H) :
    ReturnsInHanded {} Try.checked os 9 .any (Rows.rectDualSpec.pre6 enc Try.prog Try.f9 Rows.rectDualRow.domain false) (Rows.rectDualSpec.post enc Try.prog Try.f9 false true false false) := by
  refine returnsInHanded_of_change_sized (C := Try.checked) own started (by kernel_rfl) Try.func9
    (ChangeSpec.witness6 (enc := enc) (C := Try.checked) false ⟨#[], #[.agg #[.int .i64 0, .int .i64 0], .slice none 0 0, .int .u16 0], []⟩ 8 (by kernel_rfl) (by kernel_rfl) (by kernel_rfl) (by kernel_rfl)) ?_
  intro W base args ds gs before hval0 hW _ hsz0 _
  have hsz : (DataW.weightsEach Try.prog (Try.f9.params.toList ++ Rows.rectDualSpec.plain.varTypes Try.prog) (ds ++ gs)).all (· ≤ reachBytes) = true := hsz0
  clear hsz0
  have hval : ∀ (j : Nat) t v, Try.f9.params[j]? = some t → args[j]? = some v → Value.okWide Try.prog W .any base t v := hval0
  have hW' := hW
  obtain ⟨p, q, hA0, hV, rfl, _, _⟩ := hW
  have hA : DataW.TrodAll enc Try.prog W 0 (fun _ => true) true Try.f9.params.toList args.toList ds p := hA0
  rw [Try.params9] at hA hval hsz
  obtain ⟨v0, vs0, d0, ds0, q0, r0, hargs, rfl, rfl, t0, hA0⟩ := trodAll_cons hA
  obtain ⟨v1, vs1, d1, ds1, q1, r1, rfl, rfl, rfl, t1, hA1⟩ := trodAll_cons hA0
  obtain ⟨v2, vs2, d2, ds2, q2, r2, rfl, rfl, rfl, t2, hA2⟩ := trodAll_cons hA1
  obtain ⟨rfl, rfl, rfl⟩ := trodAll_nil hA2
  obtain rfl : args = #[v0, v1, v2] := by cases args; simp_all
  obtain ⟨rfl, rfl⟩ := trodVars_none hV
  have k0 := t0
  have lt0 : ∀ x ∈ q0, x.block < W.heap.size := by obtain ⟨m, hm⟩ := k0; exact DataW.trod_lt m _ _ _ hm
  have sm0 := small_each hsz (j := 0) rfl rfl
  obtain ⟨cs0, rfl, _⟩ := okWide_struct Try.underlying26 (hval 0 26 v0 rfl rfl)
  have rd0 : Rd enc Try.prog W true 26 cs0.toList := Rd.arg t0 sm0
  have rl0 := rd0.len Try.underlying26
  rw [cells26] at rl0
  obtain ⟨x0_0, x0_1, hx0⟩ := list2 rl0
  obtain rfl := toList_inj hx0
  replace rd0 : Rd enc Try.prog W true 26 [x0_0, x0_1] := rd0
  have rd00 : Rd enc Try.prog W true 3 [x0_0] := rd0.field Try.underlying26 0 rfl rfl cells3 rfl
  obtain ⟨i00, rfl, w00⟩ := rd00.intv Try.underlying3
  have b00 := wf_i64 w00
  have rd01 : Rd enc Try.prog W true 3 [x0_1] := rd0.field Try.underlying26 1 rfl rfl cells3 rfl
  obtain ⟨i01, rfl, w01⟩ := rd01.intv Try.underlying3
  have b01 := wf_i64 w01
  have k1 := t1
  have lt1 : ∀ x ∈ q1, x.block < W.heap.size := by obtain ⟨m, hm⟩ := k1; exact DataW.trod_lt m _ _ _ hm
  have sm1 := small_each hsz (j := 1) rfl rfl
  obtain ⟨sa1, sl1, sc1, rfl⟩ := okWide_slice Try.underlying68 (hval 1 68 v1 rfl rfl)
  have rd1 : Rd enc Try.prog W true 68 [.slice sa1 sl1 sc1] := Rd.arg t1 sm1
  obtain ⟨m1, f1, a1, ab1, aw1⟩ := rd1.nums Try.underlying68 Try.underlying69 cells69 bytes69 (by omega)
  have k2 := t2
  have lt2 : ∀ x ∈ q2, x.block < W.heap.size := by obtain ⟨m, hm⟩ := k2; exact DataW.trod_lt m _ _ _ hm
  have sm2 := small_each hsz (j := 2) rfl rfl
  obtain ⟨iv2, rfl⟩ := okWide_int Try.underlying69 (hval 2 69 v2 rfl rfl)
  have rd2 : Rd enc Try.prog W true 69 [.int .u16 iv2] := Rd.arg t2 sm2
  obtain ⟨i2, hi2, w2⟩ := rd2.intv Try.underlying69
  obtain rfl : iv2 = i2 := by injection hi2
  have b2 := wf_u16 w2
  clear hA0 hval0
  refine (law_dual W b2 a1 (fun j => wf_u16 (aw1 j))).mono fun e W' he => ?_
  obtain ⟨v, rfl, rfl, hS⟩ := he
  have bel := hS.below
  exact ⟨_, rfl, _, _, _, [], _, [], hW', trodAll_mk1 (shut_bool Try.underlying4 _), (trodAll_cons_mk (Below.trod laidOut (by kernel_rfl) (of_decide_eq_true (by kernel_rfl)) k0 bel lt0) (trodAll_cons_mk (Below.trod laidOut (by kernel_rfl) (of_decide_eq_true (by kernel_rfl)) k1 bel lt1) (trodAll_cons_mk (Below.trod laidOut (by kernel_rfl) (of_decide_eq_true (by kernel_rfl)) k2 bel lt2) trodAll_mk0))), rfl, bel.frame _, fun h => by cases h⟩

theorem over : Rows.rectDualRow.holds Try.pinned (OpenSpec.ofChange Rows.rectDualSpec) :=
  OpenClaim.holds_of_wide 9 Try.f9 rfl rfl rfl rfl rfl rfl rfl ⟨rfl, rfl, rfl, rfl, rfl⟩ rfl rfl rfl rfl rfl (by kernel_rfl) Try.func9 (by kernel_rfl)
    (of_decide_eq_true (by kernel_rfl)) (by unfold Func.isWrapper; first | (rw [if_pos (by decide +kernel)]; kernel_rfl) | (rw [if_neg (by decide +kernel)]; exact ⟨rfl, rfl⟩))
    (fun os started H enc _ => lifted os started H enc)

/-- The statement. -/
theorem proved : Rows.RectDualSaid := over
#print axioms proved
end Go.Proofs.Ytmlfpniaknmmfaa.rectDual
