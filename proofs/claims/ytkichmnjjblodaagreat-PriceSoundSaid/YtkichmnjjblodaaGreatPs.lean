/- The statement PriceSound: for every input that reads as data the call returns true, and each argument reads as it did. No condition. -/
import Derived.Test.YtkichmnjjblodaaGreatPsD
import Derived.Test.YtkichmnjjblodaaGreatRows
import Derived.ShutString
set_option linter.unusedVariables false
set_option linter.unusedSimpArgs false
set_option maxRecDepth 20000
set_option maxHeartbeats 4000000
namespace Go.Proofs.YtkichmnjjblodaaGreat.priceSound
open Go.ChangeShapes Go.WideShapes Go.ChangeAt Go.RowKit Go.Proofs.Gw Go.Joins
theorem own : ownKnob Tryz.prog.godebug = none := by kernel_rfl
theorem laidOut : laidOutB Tryz.prog = true := by kernel_rfl
theorem bytes103 : Tryz.prog.bytesOf 103 = 32 := by kernel_rfl
theorem bytes3 : Tryz.prog.bytesOf 3 = 8 := by kernel_rfl
theorem bytes45 : Tryz.prog.bytesOf 45 = 56 := by kernel_rfl
theorem cells103 : Tryz.prog.cellsOf 103 = 2 := by kernel_rfl
theorem cells22 : Tryz.prog.cellsOf 22 = 1 := by kernel_rfl
theorem cells24 : Tryz.prog.cellsOf 24 = 4 := by kernel_rfl
theorem cells26 : Tryz.prog.cellsOf 26 = 5 := by kernel_rfl
theorem cells3 : Tryz.prog.cellsOf 3 = 1 := by kernel_rfl
theorem cells43 : Tryz.prog.cellsOf 43 = 1 := by kernel_rfl
theorem cells45 : Tryz.prog.cellsOf 45 = 3 := by kernel_rfl
set_option maxRecDepth 100000 in
theorem lifted (os : Os) (started : os.Started) (H : Type) (enc : TypeId × Value → H) :
    ReturnsInHanded {} Tryz.checked os 7 .any (Rows.priceSoundSpec.pre6 enc Tryz.prog Tryz.f7 Rows.priceSoundRow.domain false) (Rows.priceSoundSpec.post enc Tryz.prog Tryz.f7 false true false false) := by
  refine returnsInHanded_of_change_sized (C := Tryz.checked) own started (by kernel_rfl) Tryz.func7
    (ChangeSpec.witness6 (enc := enc) (C := Tryz.checked) false ⟨#[], #[.agg #[.slice none 0 0, .slice none 0 0, .int .i64 0, .int .i64 0, .int .i64 0], .agg #[.int .i64 0, .slice none 0 0, .slice none 0 0], .slice none 0 0], []⟩ 8 (by kernel_rfl) (by kernel_rfl) (by kernel_rfl) (by kernel_rfl)) ?_
  intro W base args ds gs before hval0 hW _ hsz0 _
  have hsz : (DataW.weightsEach Tryz.prog (Tryz.f7.params.toList ++ Rows.priceSoundSpec.plain.varTypes Tryz.prog) (ds ++ gs)).all (· ≤ reachBytes) = true := hsz0
  clear hsz0
  have hval : ∀ (j : Nat) t v, Tryz.f7.params[j]? = some t → args[j]? = some v → Value.okWide Tryz.prog W .any base t v := hval0
  have hW' := hW
  obtain ⟨p, q, hA0, hV, rfl, _, _⟩ := hW
  have hA : DataW.TrodAll enc Tryz.prog W 0 (fun _ => true) true Tryz.f7.params.toList args.toList ds p := hA0
  rw [Tryz.params7] at hA hval hsz
  obtain ⟨v0, vs0, d0, ds0, q0, r0, hargs, rfl, rfl, t0, hA0⟩ := trodAll_cons hA
  obtain ⟨v1, vs1, d1, ds1, q1, r1, rfl, rfl, rfl, t1, hA1⟩ := trodAll_cons hA0
  obtain ⟨v2, vs2, d2, ds2, q2, r2, rfl, rfl, rfl, t2, hA2⟩ := trodAll_cons hA1
  obtain ⟨rfl, rfl, rfl⟩ := trodAll_nil hA2
  obtain rfl : args = #[v0, v1, v2] := by cases args; simp_all
  obtain ⟨rfl, rfl⟩ := trodVars_none hV
  have k0 := t0
  have lt0 : ∀ x ∈ q0, x.block < W.heap.size := by obtain ⟨m, hm⟩ := k0; exact DataW.trod_lt m _ _ _ hm
  have sm0 := small_each hsz (j := 0) rfl rfl
  obtain ⟨cs0, rfl, _⟩ := okWide_struct Tryz.underlying26 (hval 0 26 v0 rfl rfl)
  have rd0 : Rd enc Tryz.prog W true 26 cs0.toList := Rd.arg t0 sm0
  have rl0 := rd0.len Tryz.underlying26
  rw [cells26] at rl0
  obtain ⟨x0_0, x0_1, x0_2, x0_3, x0_4, hx0⟩ := list5 rl0
  obtain rfl := toList_inj hx0
  replace rd0 : Rd enc Tryz.prog W true 26 [x0_0, x0_1, x0_2, x0_3, x0_4] := rd0
  have rd00 : Rd enc Tryz.prog W true 24 [x0_0, x0_1, x0_2, x0_3] := rd0.field Tryz.underlying26 0 rfl rfl cells24 rfl
  have rd000 : Rd enc Tryz.prog W true 22 [x0_0] := rd00.field Tryz.underlying24 0 rfl rfl cells22 rfl
  obtain ⟨m000, f000, a000⟩ := rd000.ints Tryz.underlying22 Tryz.underlying3 cells3 bytes3
  have rd001 : Rd enc Tryz.prog W true 22 [x0_1] := rd00.field Tryz.underlying24 1 rfl rfl cells22 rfl
  obtain ⟨m001, f001, a001⟩ := rd001.ints Tryz.underlying22 Tryz.underlying3 cells3 bytes3
  have rd002 : Rd enc Tryz.prog W true 3 [x0_2] := rd00.field Tryz.underlying24 2 rfl rfl cells3 rfl
  obtain ⟨i002, rfl, w002⟩ := rd002.intv Tryz.underlying3
  have b002 := wf_i64 w002
  have rd003 : Rd enc Tryz.prog W true 3 [x0_3] := rd00.field Tryz.underlying24 3 rfl rfl cells3 rfl
  obtain ⟨i003, rfl, w003⟩ := rd003.intv Tryz.underlying3
  have b003 := wf_i64 w003
  have rd01 : Rd enc Tryz.prog W true 3 [x0_4] := rd0.field Tryz.underlying26 1 rfl rfl cells3 rfl
  obtain ⟨i01, rfl, w01⟩ := rd01.intv Tryz.underlying3
  have b01 := wf_i64 w01
  have k1 := t1
  have lt1 : ∀ x ∈ q1, x.block < W.heap.size := by obtain ⟨m, hm⟩ := k1; exact DataW.trod_lt m _ _ _ hm
  have sm1 := small_each hsz (j := 1) rfl rfl
  obtain ⟨cs1, rfl, _⟩ := okWide_struct Tryz.underlying45 (hval 1 45 v1 rfl rfl)
  have rd1 : Rd enc Tryz.prog W true 45 cs1.toList := Rd.arg t1 sm1
  have rl1 := rd1.len Tryz.underlying45
  rw [cells45] at rl1
  obtain ⟨x1_0, x1_1, x1_2, hx1⟩ := list3 rl1
  obtain rfl := toList_inj hx1
  replace rd1 : Rd enc Tryz.prog W true 45 [x1_0, x1_1, x1_2] := rd1
  obtain ⟨dd1, hd1⟩ := Rd.data rd1
  obtain ⟨tr1, ht1, hK1, hV1⟩ := tree_read Tryz.underlying45 rfl rfl rfl rfl rfl rfl Tryz.underlying43 Tryz.underlying22 Tryz.underlying3 cells45 bytes45 cells43 cells22 cells3 bytes3 _ (Nat.lt_succ_self _) hd1
  simp only [List.cons.injEq, and_true] at ht1
  obtain ⟨rfl, rfl, rfl⟩ := ht1
  have k2 := t2
  have lt2 : ∀ x ∈ q2, x.block < W.heap.size := by obtain ⟨m, hm⟩ := k2; exact DataW.trod_lt m _ _ _ hm
  have sm2 := small_each hsz (j := 2) rfl rfl
  obtain ⟨sa2, sl2, sc2, rfl⟩ := okWide_slice Tryz.underlying46 (hval 2 46 v2 rfl rfl)
  have rd2 : Rd enc Tryz.prog W true 46 [.slice sa2 sl2 sc2] := Rd.arg t2 sm2
  obtain ⟨m2, pv2, ln2, pt2, cn2, a2, rm2⟩ := rd2.uses Tryz.underlying46 Tryz.underlying103 cells103 bytes103 (by omega) rfl rfl cells22 cells3 Tryz.underlying22 Tryz.underlying3 Tryz.underlying3 cells3 bytes3
  clear hA0 hval0
  refine (law_sound36 (p := ⟨m000, f000, m001, f001, i002, i003⟩) (b := i01) (t := tr1) (u := m2) (pv := pv2) (ln := ln2) (pt := pt2) (cnt := cn2) W ⟨a000.1, a001.1, a000.2, a001.2, b002, b003⟩ hK1 hV1 ⟨a2.row, fun i i0 i1 => (a2.p i i0 i1).row, rm2⟩).mono fun e W' he => ?_
  obtain ⟨v, rfl, rfl, hS⟩ := he
  have bel := hS.below
  exact ⟨_, rfl, _, _, _, [], _, [], hW', trodAll_mk1 (shut_bool Tryz.underlying4 _), (trodAll_cons_mk (Below.trod laidOut (by kernel_rfl) (of_decide_eq_true (by kernel_rfl)) k0 bel lt0) (trodAll_cons_mk (Below.trod laidOut (by kernel_rfl) (of_decide_eq_true (by kernel_rfl)) k1 bel lt1) (trodAll_cons_mk (Below.trod laidOut (by kernel_rfl) (of_decide_eq_true (by kernel_rfl)) k2 bel lt2) trodAll_mk0))), rfl, bel.frame _, fun h => by cases h⟩
theorem over : Rows.priceSoundRow.holds Tryz.pinned (OpenSpec.ofChange Rows.priceSoundSpec) :=
  OpenClaim.holds_of_wide 7 Tryz.f7 rfl rfl rfl rfl rfl rfl rfl ⟨rfl, rfl, rfl, rfl, rfl⟩ rfl rfl rfl rfl rfl (by kernel_rfl) Tryz.func7 (by kernel_rfl)
    (of_decide_eq_true (by kernel_rfl)) (by unfold Func.isWrapper; first | (rw [if_pos (by decide +kernel)]; kernel_rfl) | (rw [if_neg (by decide +kernel)]; exact ⟨rfl, rfl⟩))
    (fun os started H enc _ => lifted os started H enc)
theorem proved : Rows.PriceSoundSaid := over
#print axioms proved
end Go.Proofs.YtkichmnjjblodaaGreat.priceSound
