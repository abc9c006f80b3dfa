/- The statement MasterRead: for every input that reads as data the call returns true, and each argument reads as it did. No condition. -/
import Derived.Test.YtelfplepnodbgaaRows
import Derived.Test.YtelfplepnodbgaaN4
import Derived.Test.YtelfplepnodbgaaRe
import Derived.Test.YtelfplepnodbgaaRd
import Derived.ShutString
namespace Go.Proofs.Ytelfplepnodbgaa.masterRead
open Go.ChangeShapes Go.WideShapes Go.ChangeAt Go.RowKit Go.Proofs.Gw Go.Joins
set_option linter.unusedVariables false

theorem own : ownKnob Try.prog.godebug = none := by kernel_rfl
theorem laidOut : laidOutB Try.prog = true := by kernel_rfl
theorem bytes22 : Try.prog.bytesOf 22 = 24 := by kernel_rfl
theorem bytes3 : Try.prog.bytesOf 3 = 8 := by kernel_rfl
theorem cells22 : Try.prog.cellsOf 22 = 1 := by kernel_rfl
theorem cells3 : Try.prog.cellsOf 3 = 1 := by kernel_rfl
theorem cells72 : Try.prog.cellsOf 72 = 4 := by kernel_rfl

set_option maxRecDepth 100000 in
theorem lifted (os : Os) (started : os.Started) (H : Type) (enc : TypeId × Value → H) :
    ReturnsInHanded {} Try.checked os 12 .any (Rows.masterReadSpec.pre6 enc Try.prog Try.f12 Rows.masterReadRow.domain false) (Rows.masterReadSpec.post enc Try.prog Try.f12 false true false false) := by
  refine returnsInHanded_of_change_sized (C := Try.checked) own started (by kernel_rfl) Try.func12
    (ChangeSpec.witness6 (enc := enc) (C := Try.checked) false ⟨#[], #[.agg #[.slice none 0 0, .slice none 0 0, .int .i64 0, .int .i64 0], .slice none 0 0], []⟩ 8 (by kernel_rfl) (by kernel_rfl) (by kernel_rfl) (by kernel_rfl)) ?_
  intro W base args ds gs before hval0 hW _ hsz0 _
  have hsz : (DataW.weightsEach Try.prog (Try.f12.params.toList ++ Rows.masterReadSpec.plain.varTypes Try.prog) (ds ++ gs)).all (· ≤ reachBytes) = true := hsz0
  clear hsz0
  have hval : ∀ (j : Nat) t v, Try.f12.params[j]? = some t → args[j]? = some v → Value.okWide Try.prog W .any base t v := hval0
  have hW' := hW
  obtain ⟨p, q, hA0, hV, rfl, _, _⟩ := hW
  have hA : DataW.TrodAll enc Try.prog W 0 (fun _ => true) true Try.f12.params.toList args.toList ds p := hA0
  rw [Try.params12] at hA hval hsz
  obtain ⟨v0, vs0, d0, ds0, q0, r0, hargs, rfl, rfl, t0, hA0⟩ := trodAll_cons hA
  obtain ⟨v1, vs1, d1, ds1, q1, r1, rfl, rfl, rfl, t1, hA1⟩ := trodAll_cons hA0
  obtain ⟨rfl, rfl, rfl⟩ := trodAll_nil hA1
  obtain rfl : args = #[v0, v1] := by cases args; simp_all
  obtain ⟨rfl, rfl⟩ := trodVars_none hV
  have k0 := t0
  have lt0 : ∀ x ∈ q0, x.block < W.heap.size := by obtain ⟨m, hm⟩ := k0; exact DataW.trod_lt m _ _ _ hm
  have sm0 := small_each hsz (j := 0) rfl rfl
  obtain ⟨cs0, rfl, _⟩ := okWide_struct Try.underlying72 (hval 0 72 v0 rfl rfl)
  have rd0 : Rd enc Try.prog W true 72 cs0.toList := Rd.arg t0 sm0
  have rl0 := rd0.len Try.underlying72
  rw [cells72] at rl0
  obtain ⟨x0_0, x0_1, x0_2, x0_3, hx0⟩ := list4 rl0
  obtain rfl := toList_inj hx0
  replace rd0 : Rd enc Try.prog W true 72 [x0_0, x0_1, x0_2, x0_3] := rd0
  have rd00 : Rd enc Try.prog W true 22 [x0_0] := rd0.field Try.underlying72 0 rfl rfl cells22 rfl
  obtain ⟨m00, f00, a00⟩ := rd00.ints Try.underlying22 Try.underlying3 cells3 bytes3
  have rd01 : Rd enc Try.prog W true 22 [x0_1] := rd0.field Try.underlying72 1 rfl rfl cells22 rfl
  obtain ⟨m01, f01, a01⟩ := rd01.ints Try.underlying22 Try.underlying3 cells3 bytes3
  have rd02 : Rd enc Try.prog W true 3 [x0_2] := rd0.field Try.underlying72 2 rfl rfl cells3 rfl
  obtain ⟨i02, rfl, w02⟩ := rd02.intv Try.underlying3
  have b02 := wf_i64 w02
  have rd03 : Rd enc Try.prog W true 3 [x0_3] := rd0.field Try.underlying72 3 rfl rfl cells3 rfl
  obtain ⟨i03, rfl, w03⟩ := rd03.intv Try.underlying3
  have b03 := wf_i64 w03
  have k1 := t1
  have lt1 : ∀ x ∈ q1, x.block < W.heap.size := by obtain ⟨m, hm⟩ := k1; exact DataW.trod_lt m _ _ _ hm
  have sm1 := small_each hsz (j := 1) rfl rfl
  obtain ⟨sa1, sl1, sc1, rfl⟩ := okWide_slice Try.underlying23 (hval 1 23 v1 rfl rfl)
  have rd1 : Rd enc Try.prog W true 23 [.slice sa1 sl1 sc1] := Rd.arg t1 sm1
  obtain ⟨m1, vv1, ln1, f1, a1⟩ := rd1.mat Try.underlying23 Try.underlying22 Try.underlying3 cells22 bytes22 cells3 bytes3
  clear hA0 hval0
  refine (law_mread (s := ⟨m00, m01, f00, f01, i02, i03⟩) W a00.1 a01.1 a1).mono fun e W' he => ?_
  obtain ⟨v, rfl, rfl, hS⟩ := he
  have bel := hS.below
  exact ⟨_, rfl, _, _, _, [], _, [], hW', trodAll_mk1 (shut_bool Try.underlying4 _), (trodAll_cons_mk (Below.trod laidOut (by kernel_rfl) (of_decide_eq_true (by kernel_rfl)) k0 bel lt0) (trodAll_cons_mk (Below.trod laidOut (by kernel_rfl) (of_decide_eq_true (by kernel_rfl)) k1 bel lt1) trodAll_mk0)), rfl, bel.frame _, fun h => by cases h⟩

theorem over : Rows.masterReadRow.holds Try.pinned (OpenSpec.ofChange Rows.masterReadSpec) :=
  OpenClaim.holds_of_wide 12 Try.f12 rfl rfl rfl rfl rfl rfl rfl ⟨rfl, rfl, rfl, rfl, rfl⟩ rfl rfl rfl rfl rfl (by kernel_rfl) Try.func12 (by kernel_rfl)
    (of_decide_eq_true (by kernel_rfl)) (by unfold Func.isWrapper; first | (rw [if_pos (by decide +kernel)]; kernel_rfl) | (rw [if_neg (by decide +kernel)]; exact ⟨rfl, rfl⟩))
    (fun os started H enc _ => lifted os started H enc)

/-- The statement. -/
theorem proved : Rows.MasterReadSaid := over
#print axioms proved
end Go.Proofs.Ytelfplepnodbgaa.masterRead
