/- From how a slice of uses reads as data to what the walks are told of it. Over any program. -/
import Derived.Test.YtigefiejddmidaaRw
import Derived.Test.YtigefiejddmidaaFs
import Derived.Deep.SlicePairs
namespace Go.Proofs.Gw
open Go Go.RowKit Go.ChangeShapes Go.WideShapes Go.ChangeAt
set_option linter.unusedVariables false

section
variable {H : Type} {enc : TypeId × Value → H} {P : Program} {w : World} {held : Bool}
theorem read_uses {t e ei : TypeId} {f0 f1 : Field} {fuel b : Nat} {v : Value} {y : DataW H × List MemPlace} (ht : P.underlying t = some (.slice e)) (he : P.underlying e = some (.struct #[f0, f1]))
    (ce : P.cellsOf e = 2) (be : P.bytesOf e = b) (hb : 2 ≤ b) (o0 : f0.offset = 0) (o1 : f1.offset = 1) (c0 : P.cellsOf f0.type = 1) (c1 : P.cellsOf f1.type = 1)
    (h0 : P.underlying f0.type = some (.slice ei)) (hei : P.underlying ei = some (.int .i64)) (cei : P.cellsOf ei = 1) (bei : P.bytesOf ei = 8) (h1 : P.underlying f1.type = some (.int .i64))
    (h : DataW.trod enc P w 0 (fun _ => true) held fuel t [v] = some y) (hs : Small P t y.1) : ∃ (n : Int) (pv : Int → Value) (len : Int → Int) (pt : Int → Int → Int) (cnt : Int → Int), UAt w v n pv len pt cnt := by
  rcases Go.Deep.open_slice_pairs ht he ce o0 o1 c0 c1 h with ⟨hcs, _⟩ | ⟨a, len, cap, m, n, V0, V1, D0, D1, P0, P1, hcs, _, hl, hm, hmm, hy, hx⟩
  · simp only [List.cons.injEq, and_true] at hcs
    subst hcs
    exact ⟨0, fun _ => undef, fun _ => 0, fun _ _ => 0, fun _ => 0, ⟨⟨by omega, by omega, none, 0, rfl, .inl rfl⟩, fun k hk => by rw [Int.zero_mul] at hk; omega⟩, fun i a0 a1 => by omega, fun _ => by omega⟩
  · simp only [List.cons.injEq, and_true] at hcs
    subst hcs
    simp only [if_true] at hmm
    subst hmm
    rw [hy] at hs
    have hsm := small_slice hs ht
    have hb1 := hsm.1
    rw [be] at hb1
    simp only [List.length_map, List.length_range] at hb1
    have h2 : len * b ≤ (len + (m - len)) * b := Nat.mul_le_mul_right _ (by omega)
    have h3 : len * b ≤ 140737488351232 := by unfold reachBytes at hb1; omega
    have h4 : len * 2 ≤ len * b := Nat.mul_le_mul_left _ hb
    have e0 : ∀ i : Int, ∃ q : Int × (Int → Int), 0 ≤ i → i < (len : Int) → IAt w (V0 i.toNat) q.1 q.2 := fun i => by
      by_cases hi : 0 ≤ i ∧ i < (len : Int)
      · obtain ⟨_, _, t0, _⟩ := hx i.toNat (by omega)
        have hd := hsm.2 (.agg [D0 i.toNat, D1 i.toNat]) (List.mem_map.2 ⟨i.toNat, List.mem_range.2 (by omega), rfl⟩)
        obtain ⟨n, f, hI⟩ := read_ints h0 hei cei bei t0 (small_struct hd he (j := 0) rfl rfl)
        exact ⟨(n, f), fun _ _ => hI⟩
      · exact ⟨(0, fun _ => 0), fun a0 a1 => absurd ⟨a0, a1⟩ hi⟩
    have e1 : ∀ i : Int, ∃ c : Int, (-9223372036854775808 ≤ c ∧ c ≤ 9223372036854775807) ∧ (0 ≤ i → i < (len : Int) → V1 i.toNat = .int .i64 c) := fun i => by
      by_cases hi : 0 ≤ i ∧ i < (len : Int)
      · obtain ⟨_, _, _, t1⟩ := hx i.toNat (by omega)
        obtain ⟨c, hc, hr⟩ := read_int h1 t1
        exact ⟨c, hr, fun _ _ => hc⟩
      · exact ⟨0, by omega, fun a0 a1 => absurd ⟨a0, a1⟩ hi⟩
    obtain ⟨F, hF⟩ := Classical.axiomOfChoice e0
    obtain ⟨G, hG⟩ := Classical.axiomOfChoice e1
    refine ⟨len, fun i => V0 i.toNat, fun i => (F i).1, fun i => (F i).2, G, ⟨⟨by omega, by omega, some a, m, by simp, ?_⟩, fun j hj => ?_⟩, fun i a0 a1 => hF i a0 a1, fun i => (hG i).1⟩
    · by_cases hl0 : len = 0
      · left; omega
      · right
        have hsp := spot_none (hx 0 (by omega)).1
        simp only [Nat.zero_mul, Addr.add, if_true] at hsp
        exact ⟨a.block, a.off, by cases a; simp at hsp; simp [hsp]⟩
    · have hi : ((j : Int) / 2).toNat < len := by omega
      have h5 := hx ((j : Int) / 2).toNat (by omega)
      have hsp : a.spot = none := by
        have h6 := spot_none (hx 0 (by omega)).1
        simpa [Addr.add] using h6
      have h6 := h5.1
      have h7 := h5.2.1
      rw [Addr.add_eq a hsp] at h6 h7
      have h8 := (hG ((j : Int) / 2)).2 (by omega) (by omega)
      unfold ucells
      by_cases hz : (j : Int) % 2 = 0
      · rw [if_pos hz]
        have e : ((j : Int) / 2).toNat * 2 = j := by omega
        rw [e] at h6
        exact h6
      · rw [if_neg hz, ← h8]
        have e : ((j : Int) / 2).toNat * 2 + 1 = j := by omega
        rw [e] at h7
        exact h7
end
end Go.Proofs.Gw
