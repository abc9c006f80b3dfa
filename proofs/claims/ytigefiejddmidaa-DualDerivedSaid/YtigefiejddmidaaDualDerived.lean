/- The statement DualDerived: for every input that reads as data the call returns true, and each argument reads as it did. No condition. -/
import Derived.Test.YtigefiejddmidaaRows
import Derived.Test.YtigefiejddmidaaW12
import Derived.Test.YtigefiejddmidaaRw
import Derived.ShutString
namespace Go.Proofs.Ytigefiejddmidaa.dualDerived
open Go.ChangeShapes Go.WideShapes Go.ChangeAt Go.RowKit Go.Proofs.Gw Go.Joins
set_option linter.unusedVariables false

theorem own : ownKnob Try.prog.godebug = none := by kernel_rfl
theorem laidOut : laidOutB Try.prog = true := by kernel_rfl
theorem cells24 : Try.prog.cellsOf 24 = 4 := by kernel_rfl
theorem one24 : (match Try.prog.underlying 24 with | some (.struct fs) => Go.Deep.oneCellFields Try.prog fs | _ => false) = true := by kernel_rfl
theorem cells22 : Try.prog.cellsOf 22 = 1 := by kernel_rfl
theorem bytes3 : Try.prog.bytesOf 3 = 8 := by kernel_rfl
theorem cells3 : Try.prog.cellsOf 3 = 1 := by kernel_rfl
theorem cells26 : Try.prog.cellsOf 26 = 2 := by kernel_rfl
theorem one26 : (match Try.prog.underlying 26 with | some (.struct fs) => Go.Deep.oneCellFields Try.prog fs | _ => false) = true := by kernel_rfl
theorem cells54 : Try.prog.cellsOf 54 = 1 := by kernel_rfl

set_option maxRecDepth 100000 in
theorem lifted (os : Os) (started : os.Started) (H : Type) (enc : TypeId × Value → H) :
    ReturnsInHanded {} Try.checked os 7 .any (Rows.dualDerivedSpec.pre6 enc Try.prog Try.f7 Rows.dualDerivedRow.domain false) (Rows.dualDerivedSpec.post enc Try.prog Try.f7 false true false false) := by
  refine returnsInHanded_of_change_sized (C := Try.checked) own started (by kernel_rfl) Try.func7
    (ChangeSpec.witness6 (enc := enc) (C := Try.checked) false ⟨#[], #[.agg #[.slice none 0 0, .slice none 0 0, .int .i64 0, .int .i64 0], .agg #[.slice none 0 0, .int .i64 0], .int .u16 0], []⟩ 8 (by kernel_rfl) (by kernel_rfl) (by kernel_rfl) (by kernel_rfl)) ?_
  intro W base args ds gs before hval0 hW _ hsz0 _
  have hsz : (DataW.weightsEach Try.prog (Try.f7.params.toList ++ Rows.dualDerivedSpec.plain.varTypes Try.prog) (ds ++ gs)).all (· ≤ reachBytes) = true := hsz0
  clear hsz0
  have hval : ∀ (j : Nat) t v, Try.f7.params[j]? = some t → args[j]? = some v → Value.okWide Try.prog W .any base t v := hval0
  have hW' := hW
  obtain ⟨p, q, hA0, hV, rfl, _, _⟩ := hW
  have hA : DataW.TrodAll enc Try.prog W 0 (fun _ => true) true Try.f7.params.toList args.toList ds p := hA0
  rw [Try.params7] at hA hval hsz
  obtain ⟨v0, vs0, d0, ds0, q0, r0, hargs, rfl, rfl, t0, hA0⟩ := trodAll_cons hA
  obtain ⟨v1, vs1, d1, ds1, q1, r1, rfl, rfl, rfl, t1, hA1⟩ := trodAll_cons hA0
  obtain ⟨v2, vs2, d2, ds2, q2, r2, rfl, rfl, rfl, t2, hA2⟩ := trodAll_cons hA1
  obtain ⟨rfl, rfl, rfl⟩ := trodAll_nil hA2
  obtain rfl : args = #[v0, v1, v2] := by cases args; simp_all
  obtain ⟨rfl, rfl⟩ := trodVars_none hV
  have k0 := t0
  have lt0 : ∀ x ∈ q0, x.block < W.heap.size := by obtain ⟨m, hm⟩ := k0; exact DataW.trod_lt m _ _ _ hm
  have sm0 := small_each hsz (j := 0) rfl rfl
  obtain ⟨x00, x01, x02, x03, y00, y01, y02, y03, n0, rfl, rfl, hp0, u00, u01, u02, u03⟩ := open_agg4 Try.underlying24 one24 cells24 (hval 0 24 v0 rfl rfl) t0
  have s00 := small_struct sm0 Try.underlying24 (j := 0) rfl rfl
  obtain ⟨m00, f00, a00⟩ := read_ints Try.underlying22 Try.underlying3 cells3 bytes3 u00 s00
  have s01 := small_struct sm0 Try.underlying24 (j := 1) rfl rfl
  obtain ⟨m01, f01, a01⟩ := read_ints Try.underlying22 Try.underlying3 cells3 bytes3 u01 s01
  have s02 := small_struct sm0 Try.underlying24 (j := 2) rfl rfl
  obtain ⟨i02, rfl, b02⟩ := read_int Try.underlying3 u02
  have s03 := small_struct sm0 Try.underlying24 (j := 3) rfl rfl
  obtain ⟨i03, rfl, b03⟩ := read_int Try.underlying3 u03
  have k1 := t1
  have lt1 : ∀ x ∈ q1, x.block < W.heap.size := by obtain ⟨m, hm⟩ := k1; exact DataW.trod_lt m _ _ _ hm
  have sm1 := small_each hsz (j := 1) rfl rfl
  obtain ⟨x10, x11, y10, y11, n1, rfl, rfl, hp1, u10, u11⟩ := open_agg2 Try.underlying26 one26 cells26 (hval 1 26 v1 rfl rfl) t1
  have s10 := small_struct sm1 Try.underlying26 (j := 0) rfl rfl
  obtain ⟨m10, f10, a10⟩ := read_ints Try.underlying22 Try.underlying3 cells3 bytes3 u10 s10
  have s11 := small_struct sm1 Try.underlying26 (j := 1) rfl rfl
  obtain ⟨i11, rfl, b11⟩ := read_int Try.underlying3 u11
  have k2 := t2
  have lt2 : ∀ x ∈ q2, x.block < W.heap.size := by obtain ⟨m, hm⟩ := k2; exact DataW.trod_lt m _ _ _ hm
  have sm2 := small_each hsz (j := 2) rfl rfl
  obtain ⟨fuel2, z2⟩ := t2
  obtain ⟨i2, rfl, rfl, rfl, w2⟩ := open_int Try.underlying54 (hval 2 54 v2 rfl rfl) ⟨fuel2, z2⟩
  have b2 := wf_u16 w2
  clear hA0 hval0
  refine (law_derived (p := ⟨m00, f00, m01, f01, i02, i03⟩) W ⟨a00.row, a01.row, a00.i, a01.i, b02, b03⟩ a10 b11 b2).mono fun e W' he => ?_
  obtain ⟨v, rfl, rfl, hS⟩ := he
  have bel := hS.below
  exact ⟨_, rfl, _, _, _, [], _, [], hW', trodAll_mk1 (shut_bool Try.underlying4 _), (trodAll_cons_mk (Below.trod laidOut (by kernel_rfl) (of_decide_eq_true (by kernel_rfl)) k0 bel lt0) (trodAll_cons_mk (Below.trod laidOut (by kernel_rfl) (of_decide_eq_true (by kernel_rfl)) k1 bel lt1) (trodAll_cons_mk (Below.trod laidOut (by kernel_rfl) (of_decide_eq_true (by kernel_rfl)) k2 bel lt2) trodAll_mk0))), rfl, bel.frame _, fun h => by cases h⟩

theorem over : Rows.dualDerivedRow.holds Try.pinned (OpenSpec.ofChange Rows.dualDerivedSpec) :=
  OpenClaim.holds_of_wide 7 Try.f7 rfl rfl rfl rfl rfl rfl rfl ⟨rfl, rfl, rfl, rfl, rfl⟩ rfl rfl rfl rfl rfl (by kernel_rfl) Try.func7 (by kernel_rfl)
    (of_decide_eq_true (by kernel_rfl)) (by unfold Func.isWrapper; first | (rw [if_pos (by decide +kernel)]; kernel_rfl) | (rw [if_neg (by decide +kernel)]; exact ⟨rfl, rfl⟩))
    (fun os started H enc _ => lifted os started H enc)

/-- The statement. -/
theorem proved : Rows.DualDerivedSaid := over
#print axioms proved
end Go.Proofs.Ytigefiejddmidaa.dualDerived
