/- Readers of slices of slices of ints. -/
import Derived.Test.YtopmifmfecfaaaaRd
import Derived.Test.YtopmifmfecfaaaaFt
namespace Go.Proofs.Gw
open Go Go.RowKit
set_option linter.unusedVariables false
section
variable {H : Type} {enc : TypeId × Value → H} {P : Program} {w : World} {held : Bool}
theorem Rd.roomy {t e : TypeId} {v : Value} (h : Rd enc P w true t [v]) (ht : P.underlying t = some (.slice e)) : Roomy v := by
  obtain ⟨fuel, y, h, hs⟩ := h
  rcases Go.Deep.open_slice ht h with ⟨hcs, _⟩ | ⟨a, len, cap, m, n, D, Pl, hcs, _, hl, hm, hmm, hy, hx⟩
  · simp only [List.cons.injEq, and_true] at hcs
    subst hcs
    intro a len cap e
    cases e
    omega
  · simp only [List.cons.injEq, and_true] at hcs
    subst hcs
    simp only [if_true] at hmm
    subst hmm
    intro a len cap e
    cases e
    omega
theorem Rd.mat {t e i : TypeId} {v : Value} (h : Rd enc P w true t [v]) (ht : P.underlying t = some (.slice e)) (he : P.underlying e = some (.slice i)) (hi : P.underlying i = some (.int .i64)) (ce : P.cellsOf e = 1) (be : P.bytesOf e = 24) (ci : P.cellsOf i = 1) (bi : P.bytesOf i = 8) :
    ∃ (n : Int) (vv : Int → Value) (ln : Int → Int) (f : Int → Int → Int), MAt w v n vv ln f := by
  obtain ⟨n, c, h1, h2, h3⟩ := h.slice ht ce be (by omega) (by omega)
  have e0 : ∀ k : Int, ∃ x : Int × (Int → Int), 0 ≤ k → k < n → Row w (c k) 1 x.1 (Go.Proofs.Gw.ints x.2) ∧ Roomy (c k) := fun k => by
    by_cases hk : 0 ≤ k ∧ k < n
    · have h4 := h3 k hk.1 hk.2
      simp only [List.range_one, List.map_cons, List.map_nil] at h4
      rw [show k * ((1 : Nat) : Int) + ((0 : Nat) : Int) = k by omega] at h4
      obtain ⟨m, f, hf⟩ := h4.ints he hi ci bi
      exact ⟨(m, f), fun _ _ => ⟨hf.1, h4.roomy he⟩⟩
    · exact ⟨(0, fun _ => 0), fun a0 a1 => absurd ⟨a0, a1⟩ hk⟩
  obtain ⟨f, hf⟩ := Classical.axiomOfChoice e0
  exact ⟨n, c, fun k => (f k).1, fun k => (f k).2, h1, fun k k0 k1 => (hf k k0 k1).1, fun k k0 k1 => (hf k k0 k1).2⟩
end
end Go.Proofs.Gw
