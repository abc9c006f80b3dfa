/- The statement TableauRows: for every input that reads as data the call returns true, and each argument reads as it did. No condition. -/
import Derived.Test.YtkcmbndnhcofpaaRows
import Derived.Test.YtkcmbndnhcofpaaT9
import Derived.Test.YtkcmbndnhcofpaaRe
import Derived.Test.YtkcmbndnhcofpaaRd
import Derived.ShutString
namespace Go.Proofs.Ytkcmbndnhcofpaa.tableauRows
open Go.ChangeShapes Go.WideShapes Go.ChangeAt Go.RowKit Go.Proofs.Gw Go.Joins
set_option linter.unusedVariables false

theorem own : ownKnob Try.prog.godebug = none := by kernel_rfl
theorem laidOut : laidOutB Try.prog = true := by kernel_rfl
theorem bytes22 : Try.prog.bytesOf 22 = 24 := by kernel_rfl
theorem bytes3 : Try.prog.bytesOf 3 = 8 := by kernel_rfl
theorem cells22 : Try.prog.cellsOf 22 = 1 := by kernel_rfl
theorem cells23 : Try.prog.cellsOf 23 = 1 := by kernel_rfl
theorem cells25 : Try.prog.cellsOf 25 = 3 := by kernel_rfl
theorem cells3 : Try.prog.cellsOf 3 = 1 := by kernel_rfl
theorem cells38 : Try.prog.cellsOf 38 = 2 := by kernel_rfl
theorem cells5 : Try.prog.cellsOf 5 = 1 := by kernel_rfl

set_option maxRecDepth 100000 in
theorem lifted (os : Os) (started : os.Started) (H : Type) (enc : TypeId × Value → H) :
    ReturnsInHanded {} Try.checked os 4 .any (Rows.tableauRowsSpec.pre6 enc Try.prog Try.f4 Rows.tableauRowsRow.domain false) (Rows.tableauRowsSpec.post enc Try.prog Try.f4 false true false false) := by
  refine returnsInHanded_of_change_sized (C := Try.checked) own started (by kernel_rfl) Try.func4
    (ChangeSpec.witness6 (enc := enc) (C := Try.checked) false ⟨#[], #[.agg #[.slice none 0 0, .slice none 0 0, .slice none 0 0], .slice none 0 0, .agg #[.int .u8 0, .int .u8 0]], []⟩ 8 (by kernel_rfl) (by kernel_rfl) (by kernel_rfl) (by kernel_rfl)) ?_
  intro W base args ds gs before hval0 hW _ hsz0 _
  have hsz : (DataW.weightsEach Try.prog (Try.f4.params.toList ++ Rows.tableauRowsSpec.plain.varTypes Try.prog) (ds ++ gs)).all (· ≤ reachBytes) = true := hsz0
  clear hsz0
  have hval : ∀ (j : Nat) t v, Try.f4.params[j]? = some t → args[j]? = some v → Value.okWide Try.prog W .any base t v := hval0
  have hW' := hW
  obtain ⟨p, q, hA0, hV, rfl, _, _⟩ := hW
  have hA : DataW.TrodAll enc Try.prog W 0 (fun _ => true) true Try.f4.params.toList args.toList ds p := hA0
  rw [Try.params4] at hA hval hsz
  obtain ⟨v0, vs0, d0, ds0, q0, r0, hargs, rfl, rfl, t0, hA0⟩ := trodAll_cons hA
  obtain ⟨v1, vs1, d1, ds1, q1, r1, rfl, rfl, rfl, t1, hA1⟩ := trodAll_cons hA0
  obtain ⟨v2, vs2, d2, ds2, q2, r2, rfl, rfl, rfl, t2, hA2⟩ := trodAll_cons hA1
  obtain ⟨rfl, rfl, rfl⟩ := trodAll_nil hA2
  obtain rfl : args = #[v0, v1, v2] := by cases args; simp_all
  obtain ⟨rfl, rfl⟩ := trodVars_none hV
  have k0 := t0
  have lt0 : ∀ x ∈ q0, x.block < W.heap.size := by obtain ⟨m, hm⟩ := k0; exact DataW.trod_lt m _ _ _ hm
  have sm0 := small_each hsz (j := 0) rfl rfl
  obtain ⟨cs0, rfl, _⟩ := okWide_struct Try.underlying25 (hval 0 25 v0 rfl rfl)
  have rd0 : Rd enc Try.prog W true 25 cs0.toList := Rd.arg t0 sm0
  have rl0 := rd0.len Try.underlying25
  rw [cells25] at rl0
  obtain ⟨x0_0, x0_1, x0_2, hx0⟩ := list3 rl0
  obtain rfl := toList_inj hx0
  replace rd0 : Rd enc Try.prog W true 25 [x0_0, x0_1, x0_2] := rd0
  have rd00 : Rd enc Try.prog W true 22 [x0_0] := rd0.field Try.underlying25 0 rfl rfl cells22 rfl
  obtain ⟨m00, f00, a00⟩ := rd00.ints Try.underlying22 Try.underlying3 cells3 bytes3
  have rd01 : Rd enc Try.prog W true 23 [x0_1] := rd0.field Try.underlying25 1 rfl rfl cells23 rfl
  obtain ⟨m01, vv01, ln01, f01, a01⟩ := rd01.mat Try.underlying23 Try.underlying22 Try.underlying3 cells22 bytes22 cells3 bytes3
  have rd02 : Rd enc Try.prog W true 22 [x0_2] := rd0.field Try.underlying25 2 rfl rfl cells22 rfl
  obtain ⟨m02, f02, a02⟩ := rd02.ints Try.underlying22 Try.underlying3 cells3 bytes3
  have k1 := t1
  have lt1 : ∀ x ∈ q1, x.block < W.heap.size := by obtain ⟨m, hm⟩ := k1; exact DataW.trod_lt m _ _ _ hm
  have sm1 := small_each hsz (j := 1) rfl rfl
  obtain ⟨sa1, sl1, sc1, rfl⟩ := okWide_slice Try.underlying22 (hval 1 22 v1 rfl rfl)
  have rd1 : Rd enc Try.prog W true 22 [.slice sa1 sl1 sc1] := Rd.arg t1 sm1
  obtain ⟨m1, f1, a1⟩ := rd1.ints Try.underlying22 Try.underlying3 cells3 bytes3
  have k2 := t2
  have lt2 : ∀ x ∈ q2, x.block < W.heap.size := by obtain ⟨m, hm⟩ := k2; exact DataW.trod_lt m _ _ _ hm
  have sm2 := small_each hsz (j := 2) rfl rfl
  obtain ⟨cs2, rfl, _⟩ := okWide_array Try.underlying38 (hval 2 38 v2 rfl rfl)
  have rd2 : Rd enc Try.prog W true 38 cs2.toList := Rd.arg t2 sm2
  have rl2 := rd2.lenA Try.underlying38
  rw [cells38] at rl2
  obtain ⟨x2_0, x2_1, hx2⟩ := list2 rl2
  obtain rfl := toList_inj hx2
  replace rd2 : Rd enc Try.prog W true 38 [x2_0, x2_1] := rd2
  have rd20 : Rd enc Try.prog W true 5 [x2_0] := rd2.elem Try.underlying38 0 (by omega) cells5 rfl
  obtain ⟨i20, rfl, w20⟩ := rd20.intv Try.underlying5
  have b20 := wf_u8 w20
  have rd21 : Rd enc Try.prog W true 5 [x2_1] := rd2.elem Try.underlying38 1 (by omega) cells5 rfl
  obtain ⟨i21, rfl, w21⟩ := rd21.intv Try.underlying5
  have b21 := wf_u8 w21
  clear hA0 hval0
  refine (law_trows (p := ⟨m00, m01, m02, f00, ln01, f01, f02⟩) W ⟨a00.1, a01, a02.1⟩ a1.row (rd1.roomy Try.underlying22) b20 b21).mono fun e W' he => ?_
  obtain ⟨v, rfl, rfl, hS⟩ := he
  have bel := hS.below
  exact ⟨_, rfl, _, _, _, [], _, [], hW', trodAll_mk1 (shut_bool Try.underlying4 _), (trodAll_cons_mk (Below.trod laidOut (by kernel_rfl) (of_decide_eq_true (by kernel_rfl)) k0 bel lt0) (trodAll_cons_mk (Below.trod laidOut (by kernel_rfl) (of_decide_eq_true (by kernel_rfl)) k1 bel lt1) (trodAll_cons_mk (Below.trod laidOut (by kernel_rfl) (of_decide_eq_true (by kernel_rfl)) k2 bel lt2) trodAll_mk0))), rfl, bel.frame _, fun h => by cases h⟩

theorem over : Rows.tableauRowsRow.holds Try.pinned (OpenSpec.ofChange Rows.tableauRowsSpec) :=
  OpenClaim.holds_of_wide 4 Try.f4 rfl rfl rfl rfl rfl rfl rfl ⟨rfl, rfl, rfl, rfl, rfl⟩ rfl rfl rfl rfl rfl (by kernel_rfl) Try.func4 (by kernel_rfl)
    (of_decide_eq_true (by kernel_rfl)) (by unfold Func.isWrapper; first | (rw [if_pos (by decide +kernel)]; kernel_rfl) | (rw [if_neg (by decide +kernel)]; exact ⟨rfl, rfl⟩))
    (fun os started H enc _ => lifted os started H enc)

/-- The statement. -/
theorem proved : Rows.TableauRowsSaid := over
#print axioms proved
end Go.Proofs.Ytkcmbndnhcofpaa.tableauRows
