/- A reader of plans. -/
import Derived.Test.YtdlojjhknmmmlaaRe
import Derived.Test.YtdlojjhknmmmlaaGu
namespace Go.Proofs.Gw
open Go Go.RowKit
set_option linter.unusedVariables false
section
variable {H : Type} {enc : TypeId × Value → H} {P : Program} {w : World} {held : Bool}
theorem Rd.uses {t e i : TypeId} {f0 f1 : Field} {b : Nat} {v : Value} (h : Rd enc P w true t [v]) (ht : P.underlying t = some (.slice e)) (he : P.underlying e = some (.struct #[f0, f1])) (ce : P.cellsOf e = 2) (be : P.bytesOf e = b) (hb : 2 ≤ b)
    (o0 : f0.offset = 0) (o1 : f1.offset = 1) (c0 : P.cellsOf f0.type = 1) (c1 : P.cellsOf f1.type = 1) (u0 : P.underlying f0.type = some (.slice i)) (u1 : P.underlying f1.type = some (.int .i64)) (hi : P.underlying i = some (.int .i64)) (ci : P.cellsOf i = 1) (bi : P.bytesOf i = 8) :
    ∃ (n : Int) (pv : Int → Value) (ln : Int → Int) (pt : Int → Int → Int) (cnt : Int → Int), UAt w v n pv ln pt cnt ∧ ∀ k, 0 ≤ k → k < n → Roomy (pv k) := by
  obtain ⟨n, c, h1, h2, h3⟩ := h.slice ht ce be (by omega) hb
  have e0 : ∀ k : Int, ∃ x : Value × Int × (Int → Int) × Int, (0 ≤ k → k < n → c (2 * k) = x.1 ∧ c (2 * k + 1) = .int .i64 x.2.2.2 ∧ IAt w x.1 x.2.1 x.2.2.1 ∧ Roomy x.1) ∧ (-9223372036854775808 ≤ x.2.2.2 ∧ x.2.2.2 ≤ 9223372036854775807) := fun k => by
    by_cases hk : 0 ≤ k ∧ k < n
    · have h4 := h3 k hk.1 hk.2
      have e : ((List.range 2).map fun j : Nat => c (k * (2 : Nat) + j)) = [c (2 * k), c (2 * k + 1)] := by
        simp [List.range_succ]
        exact ⟨by congr 1; omega, by congr 1; omega⟩
      rw [e] at h4
      have h5 := h4.field he 0 rfl rfl c0 (ds := [c (2 * k)]) (by show List.take 1 (List.drop f0.offset _) = _; rw [o0]; rfl)
      obtain ⟨m, f, hf⟩ := h5.ints u0 hi ci bi
      obtain ⟨y, hy, wy⟩ := (h4.field he 1 rfl rfl c1 (ds := [c (2 * k + 1)]) (by show List.take 1 (List.drop f1.offset _) = _; rw [o1]; rfl)).intv u1
      exact ⟨(c (2 * k), m, f, y), fun _ _ => ⟨rfl, hy, hf, h5.roomy u0⟩, wf_i64 wy⟩
    · exact ⟨(undef, 0, fun _ => 0, 0), fun a0 a1 => absurd ⟨a0, a1⟩ hk, by dsimp only; omega⟩
  obtain ⟨f, hf⟩ := Classical.axiomOfChoice e0
  refine ⟨n, fun k => (f k).1, fun k => (f k).2.1, fun k => (f k).2.2.1, fun k => (f k).2.2.2, ⟨h1.congr fun k k0 k1 => ?_, fun k k0 k1 => ((hf k).1 k0 k1).2.2.1, fun k => (hf k).2⟩, fun k k0 k1 => ((hf k).1 k0 k1).2.2.2⟩
  unfold ucells
  by_cases e : k % 2 = 0
  · rw [if_pos e]; show c k = (f (k / 2)).1; rw [← ((hf (k / 2)).1 (by omega) (by omega)).1]; congr 1; omega
  · rw [if_neg e]; show c k = .int .i64 (f (k / 2)).2.2.2; rw [← ((hf (k / 2)).1 (by omega) (by omega)).2.1]; congr 1; omega
end
end Go.Proofs.Gw
