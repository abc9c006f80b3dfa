/- A pivot at the same place once more. -/
import Derived.Test.YtopmifmfecfaaaaFz
namespace Go.Proofs.Gw
open Go Go.RowKit
set_option linter.unusedVariables false
set_option linter.unusedSimpArgs false
theorem piv_piv {t : Tb} {row col : Int} (ha : pargs t row col) (hd : pdiv t row col) (hu : TPrp (piv t row col)) :
    pargs (piv t row col) row col ∧ pdiv (piv t row col) row col ∧ TPrp (piv (piv t row col) row col) ∧
      (piv (piv t row col) row col).den = t.den ∧ (piv (piv t row col) row col).B = t.B ∧ (piv (piv t row col) row col).F = t.F ∧
      ∀ i j, 0 ≤ i → i ≤ t.nb → 0 ≤ j → j ≤ t.nf → (piv (piv t row col) row col).C i j = t.C i j := by
  obtain ⟨hp, r0, r1, c0, c1, hne⟩ := ha
  have hD := hp.d1
  have hs := sg_cases (t.C (row + 1) (col + 1))
  have hden := piv_den t row col
  have urs : (piv t row col).C (row + 1) (col + 1) = sg (t.C (row + 1) (col + 1)) * t.den := by rw [piv_C]; unfold pcell; rw [if_pos ⟨rfl, rfl⟩]
  have urj : ∀ j, j ≠ col + 1 → (piv t row col).C (row + 1) j = sg (t.C (row + 1) (col + 1)) * -t.C (row + 1) j := fun j hj => by rw [piv_C]; unfold pcell; rw [if_neg (by omega), if_pos rfl]
  have uis : ∀ i, i ≠ row + 1 → (piv t row col).C i (col + 1) = sg (t.C (row + 1) (col + 1)) * t.C i (col + 1) := fun i hi => by rw [piv_C]; unfold pcell; rw [if_neg (by omega), if_neg hi, if_pos rfl]
  have uij : ∀ i j, 0 ≤ i → i ≤ t.nb → 0 ≤ j → j ≤ t.nf → i ≠ row + 1 → j ≠ col + 1 → t.den * (piv t row col).C i j = sg (t.C (row + 1) (col + 1)) * (t.C (row + 1) (col + 1) * t.C i j - t.C i (col + 1) * t.C (row + 1) j) := fun i j i0 i1 j0 j1 hi hj => by
    have := pcell_other hd i0 i1 j0 j1 hi hj
    rw [piv_C]; grind
  have sgs : sg ((piv t row col).C (row + 1) (col + 1)) = sg (t.C (row + 1) (col + 1)) := by
    rw [urs]
    rcases hs with h | h <;> rw [h] <;> unfold sg <;> split <;> omega
  have hnum : ∀ i j, 0 ≤ i → i ≤ t.nb → 0 ≤ j → j ≤ t.nf → i ≠ row + 1 → j ≠ col + 1 →
      (piv t row col).C (row + 1) (col + 1) * (piv t row col).C i j - (piv t row col).C i (col + 1) * (piv t row col).C (row + 1) j = (piv t row col).den * (sg (t.C (row + 1) (col + 1)) * t.C i j) := fun i j i0 i1 j0 j1 hi hj => by
    have h1 := uij i j i0 i1 j0 j1 hi hj
    rw [urs, uis i hi, urj j hj, hden]
    rcases hs with h | h <;> rw [h] at h1 ⊢ <;> grind
  have ha' : pargs (piv t row col) row col := ⟨hu, r0, r1, c0, c1, by rw [urs]; rcases hs with h | h <;> rw [h] <;> omega⟩
  have hd' : pdiv (piv t row col) row col := fun i j i0 i1 j0 j1 hi hj => by
    rw [hnum i j i0 i1 j0 j1 hi hj]; exact Int.mul_tmod_right _ _
  have hB : (piv (piv t row col) row col).B = t.B := by
    funext k
    show upd (upd t.B row (t.F col)) row (upd t.F col (t.B row) col) k = t.B k
    rw [upd_self]
    by_cases e : k = row
    · rw [e, upd_self]
    · rw [upd_ne _ _ e, upd_ne _ _ e]
  have hF : (piv (piv t row col) row col).F = t.F := by
    funext k
    show upd (upd t.F col (t.B row)) col (upd t.B row (t.F col) row) k = t.F k
    rw [upd_self]
    by_cases e : k = col
    · rw [e, upd_self]
    · rw [upd_ne _ _ e, upd_ne _ _ e]
  have hdd : (piv (piv t row col) row col).den = t.den := by
    rw [piv_den, sgs, urs]
    rcases hs with h | h <;> rw [h] <;> omega
  have hC : ∀ i j, 0 ≤ i → i ≤ t.nb → 0 ≤ j → j ≤ t.nf → (piv (piv t row col) row col).C i j = t.C i j := fun i j i0 i1 j0 j1 => by
    rw [piv_C, sgs]
    by_cases hi : i = row + 1
    · by_cases hj : j = col + 1
      · subst hi; subst hj
        unfold pcell; rw [if_pos ⟨rfl, rfl⟩, hden]
        rcases hs with h | h <;> rw [h] <;> omega
      · subst hi
        unfold pcell; rw [if_neg (by omega), if_pos rfl, urj j hj]
        rcases hs with h | h <;> rw [h] <;> omega
    · by_cases hj : j = col + 1
      · subst hj
        unfold pcell; rw [if_neg (by omega), if_neg hi, if_pos rfl, uis i hi]
        rcases hs with h | h <;> rw [h] <;> omega
      · unfold pcell; rw [if_neg (by omega), if_neg hi, if_neg hj, hnum i j i0 i1 j0 j1 hi hj, Int.mul_tdiv_cancel_left _ (by have := hu.d1; omega)]
        rcases hs with h | h <;> rw [h] <;> omega
  have hcc := hp.c
  refine ⟨ha', hd', ⟨hp.n1, hp.n2, hp.m2, hp.v, by rw [hdd]; exact hp.d1, by rw [hdd]; exact hp.d2, hp.c, ?_, fun i i0 i1 => ?_⟩, hdd, hB, hF, hC⟩
  · rw [hB, hF]; exact hp.perm
  · have i2 : i < t.nc := i1
    obtain ⟨h1, h2⟩ := hp.rows i i0 i2
    refine ⟨h1, fun j j0 j1 => ?_⟩
    have j2 : j < t.ln i := j1
    rw [hC i j i0 (by omega) j0 (by omega)]
    exact h2 j j0 j2
end Go.Proofs.Gw
