/- From how an argument reads as data to what the walks are told of it. Over any program. -/
import Derived.Test.YtmlfpniaknmmfaaFp
import Derived.ProofKit
import Derived.OpenShut
import Derived.ChangeOld
import Derived.SizedLaws
import Derived.Lib.SmallJoins
import Derived.Deep.Slices
namespace Go.Proofs.Gw
open Go Go.RowKit Go.ChangeShapes Go.WideShapes Go.ChangeAt
set_option linter.unusedVariables false
set_option linter.unusedSimpArgs false

section
variable {H : Type} {enc : TypeId × Value → H} {P : Program} {w : World} {held : Bool}
/-- No part of the datum outweighs what memory bears. -/
def Small {H : Type} (P : Program) (t : TypeId) (d : DataW H) : Prop := (d.weights P t).all (· ≤ reachBytes) = true
theorem small_each {ts : List TypeId} {ds : List (DataW H)} (h : (DataW.weightsEach P ts ds).all (· ≤ reachBytes) = true) {j : Nat} {t : TypeId} {d : DataW H} (ht : ts[j]? = some t) (hd : ds[j]? = some d) : Small P t d :=
  List.all_eq_true.2 fun n hn => List.all_eq_true.1 h n (DataW.weights_mem_each ht hd n hn)
theorem small_struct {t : TypeId} {fs : Array Field} {parts : List (DataW H)} (h : Small P t (.agg parts)) (hu : P.underlying t = some (.struct fs)) {j : Nat} {u : TypeId} {d : DataW H} (ht : (fs.toList.map (·.type))[j]? = some u) (hd : parts[j]? = some d) : Small P u d := by
  unfold Small at h
  simp only [DataW.weights, hu] at h
  exact small_each h ht hd
theorem small_all {e : TypeId} : ∀ {ds : List (DataW H)}, (DataW.weightsAll P e ds).all (· ≤ reachBytes) = true → ∀ d ∈ ds, Small P e d
  | [], _, d, hd => by cases hd
  | x :: r, h, d, hd => by
    simp only [DataW.weightsAll, List.all_append, Bool.and_eq_true] at h
    rcases List.mem_cons.1 hd with rfl | hd
    · exact h.1
    · exact small_all h.2 d hd
theorem small_slice {t e : TypeId} {elems spare : List (DataW H)} (h : Small P t (.slice elems spare)) (hu : P.underlying t = some (.slice e)) : (elems.length + spare.length) * P.bytesOf e ≤ reachBytes ∧ ∀ d ∈ elems, Small P e d := by
  unfold Small at h
  simp only [DataW.weights, hu, List.all_cons, List.all_append, Bool.and_eq_true, decide_eq_true_eq] at h
  exact ⟨h.1, small_all h.2.1⟩
theorem wf_i64 {n : Int} (h : (Lit.int .i64 n).wf = true) : -9223372036854775808 ≤ n ∧ n ≤ 9223372036854775807 := by
  simp only [Lit.wf, Bool.and_eq_true, decide_eq_true_eq] at h
  have h1 : IntKind.i64.min = -9223372036854775808 := by decide
  have h2 : IntKind.i64.max = 9223372036854775807 := by decide
  omega
theorem wf_u8 {n : Int} (h : (Lit.int .u8 n).wf = true) : 0 ≤ n ∧ n ≤ 255 := by
  simp only [Lit.wf, Bool.and_eq_true, decide_eq_true_eq] at h
  have h1 : IntKind.u8.min = 0 := by decide
  have h2 : IntKind.u8.max = 255 := by decide
  omega
theorem wf_u16 {n : Int} (h : (Lit.int .u16 n).wf = true) : 0 ≤ n ∧ n ≤ 65535 := by
  simp only [Lit.wf, Bool.and_eq_true, decide_eq_true_eq] at h
  have h1 : IntKind.u16.min = 0 := by decide
  have h2 : IntKind.u16.max = 65535 := by decide
  omega
theorem spot_none {a : Addr} {v : Value} (h : w.cell? a = some v) : a.spot = none := World.cell?_spot h
/-- A slice of one-cell integers. -/
theorem read_nums {k : IntKind} {t e : TypeId} {fuel b : Nat} {v : Value} {y : DataW H × List MemPlace} (ht : P.underlying t = some (.slice e)) (he : P.underlying e = some (.int k)) (hc : P.cellsOf e = 1) (hb : P.bytesOf e = b) (hb1 : 1 ≤ b)
    (h : DataW.trod enc P w 0 (fun _ => true) held fuel t [v] = some y) (hs : Small P t y.1) : ∃ (n : Int) (f : Int → Int), Row w v 1 n (fun j => .int k (f j)) ∧ b * n ≤ 140737488351232 ∧ ∀ j, (Lit.int k (f j)).wf = true := by
  have h0 : (Lit.int k 0).wf = true := by cases k <;> decide
  rcases open_ints ht he hc h with ⟨hcs, _⟩ | ⟨a, len, cap, zs, hcs, _, hl, hm, hz, hy, hcell, hwz⟩
  · simp only [List.cons.injEq, and_true] at hcs
    subst hcs
    exact ⟨0, fun _ => 0, ⟨⟨by omega, by omega, none, 0, rfl, .inl rfl⟩, fun k hk => by rw [Int.zero_mul] at hk; omega⟩, by omega, fun _ => h0⟩
  · simp only [List.cons.injEq, and_true] at hcs
    subst hcs
    simp only [if_true] at hz
    rw [hy] at hs
    have h1 := (small_slice hs ht).1
    rw [hb] at h1
    simp only [lits, List.length_map, List.length_take, List.length_drop, hz, Nat.min_eq_left hl] at h1
    have h2 : len * b ≤ (len + (cap - len)) * b := Nat.mul_le_mul_right _ (by omega)
    have h3 : len * b ≤ 140737488351232 := by unfold reachBytes at h1; omega
    have h4 : len * 1 ≤ len * b := Nat.mul_le_mul_left _ hb1
    refine ⟨len, fun j => zs.getD j.toNat 0, ⟨⟨by omega, by omega, some a, cap, by simp, ?_⟩, fun j hj => ?_⟩, ?_, fun j => ?_⟩
    · by_cases hl0 : len = 0
      · left; omega
      · right
        have := hcell 0 (by omega)
        have hsp := spot_none this
        simp only [Addr.add, if_true] at hsp
        exact ⟨a.block, a.off, by cases a; simp at hsp; simp [hsp]⟩
    · have hj' : j < len := by omega
      have h5 := hcell j (by omega)
      have hsp : a.spot = none := by
        have h6 := spot_none (hcell 0 (by omega))
        simpa [Addr.add] using h6
      rw [Addr.add_eq a hsp] at h5
      simpa [cad] using h5
    · have : ((len * b : Nat) : Int) = b * len := by rw [Int.natCast_mul, Int.mul_comm]
      omega
    · show (Lit.int k (zs.getD j.toNat 0)).wf = true
      rw [List.getD_eq_getElem?_getD]
      cases hq : zs[j.toNat]? with
      | none => exact h0
      | some n => exact hwz n (List.mem_of_getElem? hq)
theorem read_ints {t e : TypeId} {fuel : Nat} {v : Value} {y : DataW H × List MemPlace} (ht : P.underlying t = some (.slice e)) (he : P.underlying e = some (.int .i64)) (hc : P.cellsOf e = 1) (hb : P.bytesOf e = 8)
    (h : DataW.trod enc P w 0 (fun _ => true) held fuel t [v] = some y) (hs : Small P t y.1) : ∃ (n : Int) (f : Int → Int), IAt w v n f := by
  obtain ⟨n, f, h1, _, h2⟩ := read_nums ht he hc hb (by omega) h hs
  exact ⟨n, f, h1, fun k => wf_i64 (h2 k)⟩
theorem read_int {t : TypeId} {fuel : Nat} {v : Value} {y : DataW H × List MemPlace} (ht : P.underlying t = some (.int .i64)) (h : DataW.trod enc P w 0 (fun _ => true) held fuel t [v] = some y) : ∃ n : Int, v = .int .i64 n ∧ (-9223372036854775808 ≤ n ∧ n ≤ 9223372036854775807) := by
  obtain ⟨n, h1, _, h2⟩ := DataW.trod_int ht h
  simp only [List.cons.injEq, and_true] at h1
  exact ⟨n, h1, wf_i64 h2⟩
end
end Go.Proofs.Gw
