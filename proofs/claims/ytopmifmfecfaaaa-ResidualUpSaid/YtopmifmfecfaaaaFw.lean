/- The example of layer 29, run. -/
import Derived.Test.YtopmifmfecfaaaaFu
namespace Go.Proofs.Gw
open Go Go.RowKit
set_option linter.unusedVariables false
set_option linter.unusedSimpArgs false

theorem bnd {P : Int → Prop} {n : Int} (h : ∀ k, k < n.toNat → P (k : Int)) : ∀ i, 0 ≤ i → i < n → P i := fun i i0 i1 => by
  have := h i.toNat (by omega); rwa [Int.toNat_of_nonneg i0] at this
def tprpD (t : Tb) : Bool :=
  decide (1 ≤ t.nf ∧ t.nf ≤ 60 ∧ t.nb ≤ 16 ∧ t.vars = t.nf ∧ 1 ≤ t.den ∧ t.den ≤ 1073741824 ∧ t.nc = t.nb + 1) &&
  decide (∀ i, i < (t.nf + t.nb).toNat → 0 ≤ cat t.nf t.F t.B (i : Nat) ∧ cat t.nf t.F t.B (i : Nat) < t.nf + t.nb) &&
  decide (∀ i, i < (t.nf + t.nb).toNat → ∀ j, j < (t.nf + t.nb).toNat → cat t.nf t.F t.B (i : Nat) = cat t.nf t.F t.B (j : Nat) → i = j) &&
  decide (∀ i, i < t.nc.toNat → t.ln (i : Nat) = t.nf + 1 ∧ ∀ j, j < (t.ln (i : Nat)).toNat → -1073741824 ≤ t.C (i : Nat) (j : Nat) ∧ t.C (i : Nat) (j : Nat) ≤ 1073741824)
theorem tprp_of {t : Tb} (h : tprpD t = true) : TPrp t := by
  simp only [tprpD, Bool.and_eq_true, decide_eq_true_eq] at h
  obtain ⟨⟨⟨⟨a1, a2, a3, a4, a5, a6, a7⟩, a8⟩, a9⟩, a10⟩ := h
  refine ⟨a1, a2, a3, a4, a5, a6, a7, ⟨bnd a8, fun i j i0 i1 j0 j1 e => ?_⟩, fun i i0 i1 => ?_⟩
  · have := a9 i.toNat (by omega) j.toNat (by omega) (by rw [Int.toNat_of_nonneg i0, Int.toNat_of_nonneg j0]; exact e)
    omega
  · have := a10 i.toNat (by omega)
    rw [Int.toNat_of_nonneg i0] at this
    exact ⟨this.1, bnd this.2⟩
def nextD (t : Tb) : Bool := tprpD t && decide (∀ j, j < t.nf.toNat → 0 ≤ t.C 0 (j + 1 : Nat))
theorem costs_of {t : Tb} (h : ∀ j, j < t.nf.toNat → 0 ≤ t.C 0 (j + 1 : Nat)) : t.costs := fun j j0 j1 => by
  have := h (j - 1).toNat (by omega)
  rwa [show (((j - 1).toNat + 1 : Nat) : Int) = j by omega] at this
theorem next_of {t : Tb} {r c : Int} (h : nextD t = true) (h1 : leav t t.nb.toNat = r) (h2 : entr t r t.nf.toNat = c) (r0 : 0 ≤ r) (c0 : 0 ≤ c) : NextR t r c false 0 := by
  simp only [nextD, Bool.and_eq_true, decide_eq_true_eq] at h
  subst h1
  exact .inr (.inr (.inr ⟨tprp_of h.1, costs_of h.2, r0, by omega, rfl, h2.symm, rfl, rfl⟩))
theorem stop_of {t : Tb} (h : nextD t = true) (h1 : leav t t.nb.toNat < 0) : NextR t 0 0 true 0 := by
  simp only [nextD, Bool.and_eq_true, decide_eq_true_eq] at h
  exact .inr (.inl ⟨tprp_of h.1, costs_of h.2, h1, rfl, rfl, rfl, rfl⟩)
def pivD (t : Tb) (row col : Int) : Bool := tprpD t && decide (0 ≤ row ∧ row < t.nb ∧ 0 ≤ col ∧ col < t.nf ∧ t.C (row + 1) (col + 1) ≠ 0) && tprpD (piv t row col) &&
  decide (∀ i, i < (t.nb + 1).toNat → ∀ j, j < (t.nf + 1).toNat → (i : Int) ≠ row + 1 → (j : Int) ≠ col + 1 → (t.C (row + 1) (col + 1) * t.C (i : Nat) (j : Nat) - t.C (i : Nat) (col + 1) * t.C (row + 1) (j : Nat)).tmod t.den = 0)
theorem piv_of {t : Tb} {row col : Int} (h : pivD t row col = true) : PivR t row col (piv t row col) 0 := by
  simp only [pivD, Bool.and_eq_true, decide_eq_true_eq] at h
  obtain ⟨⟨⟨h1, h2⟩, h3⟩, h4⟩ := h
  refine .inr (.inr (.inr ⟨⟨tprp_of h1, h2⟩, fun i j i0 i1 j0 j1 hi hj => ?_, tprp_of h3, rfl, rfl⟩))
  have := h4 i.toNat (by omega) j.toNat (by omega)
  rw [Int.toNat_of_nonneg i0, Int.toNat_of_nonneg j0] at this
  exact this hi hj
def pEx : Lp := ⟨2, 2, 2, fun k => [1, 1].getD k.toNat 0, pair2 2 2, pair2 (fun k => [2, 1].getD k.toNat 0) (fun k => [1, 3].getD k.toNat 0), fun k => [3, 4].getD k.toNat 0⟩
def tEx1 : Tb := piv (startT pEx) 0 0
def tEx2 : Tb := piv tEx1 1 1
theorem okEx : LOk pEx := ⟨by decide, by decide, by decide, rfl, bnd (by decide), bnd (by decide), fun i i0 i1 => by
  have : i = 0 ∨ i = 1 := by simp [pEx] at i1; omega
  rcases this with rfl | rfl
  · exact ⟨rfl, bnd (by decide)⟩
  · exact ⟨rfl, bnd (by decide)⟩⟩
theorem runEx : Run 1000 (startT pEx) tEx2 0 :=
  .go (next_of (r := 0) (c := 0) (by decide +kernel) (by decide +kernel) (by decide +kernel) (by decide) (by decide)) (piv_of (by decide +kernel))
    (.go (next_of (r := 1) (c := 1) (by decide +kernel) (by decide +kernel) (by decide +kernel) (by decide) (by decide)) (piv_of (by decide +kernel))
      (.stop (stop_of (by decide +kernel) (by decide +kernel)) (.inl rfl)))
theorem chkEx : ChkS pEx (readS tEx2) := ⟨okEx, by decide +kernel, by decide +kernel, by decide +kernel, rfl, rfl, bnd (by decide +kernel), bnd (by decide +kernel), bnd (by decide +kernel), bnd (by decide +kernel), by decide +kernel, by decide +kernel⟩
theorem solEx {s : So} {e : Int} (h : SolveR pEx s e) : e = 0 ∧ 0 < s.den ∧ s.val = 2 * s.den ∧ s.n = 2 ∧ s.m = 2 ∧ s.X 0 = s.den ∧ s.X 1 = s.den ∧ 5 * s.Y 0 = 2 * s.den ∧ 5 * s.Y 1 = s.den ∧ s.den ≤ 1073741824 ∧ s.Y 0 ≤ 1073741824 ∧ s.Y 1 ≤ 1073741824 ∧ ChkS pEx s := by
  obtain ⟨rfl, rfl⟩ := h.same (.inr ⟨okEx, tEx2, runEx, .inr ⟨rfl, rfl⟩⟩)
  exact ⟨rfl, by decide +kernel, by decide +kernel, rfl, rfl, by decide +kernel, by decide +kernel, by decide +kernel, by decide +kernel, by decide +kernel, by decide +kernel, by decide +kernel, chkEx⟩
/-- Two rows, written out. -/
theorem matEx {w : World} {v a b : Value} {n m : Int} {f g : Int → Int} (h : Row w v 1 2 (fun k => [a, b].getD k.toNat undef)) (ha : Row w a 1 n (ints f)) (hb : Row w b 1 m (ints g)) (ra : Roomy a) (rb : Roomy b) : MAt w v 2 (pair2 a b) (pair2 n m) (pair2 f g) := by
  have e : ∀ k : Int, 0 ≤ k → k < 2 → k = 0 ∨ k = 1 := fun k k0 k1 => by omega
  refine ⟨⟨h.1, fun k hk => ?_⟩, fun i i0 i1 => ?_, fun i i0 i1 => ?_⟩
  · have := h.2 k hk
    rcases k with _ | _ | k
    · exact this
    · exact this
    · simp at hk; omega
  · rcases e i i0 i1 with rfl | rfl
    · exact ha
    · exact hb
  · rcases e i i0 i1 with rfl | rfl
    · exact ra
    · exact rb
end Go.Proofs.Gw
