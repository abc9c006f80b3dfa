/- Gomory's cuts in plain words: the row of the least variable that is no whole number, the cut of a row, the tableau with a cut; rounds of optimizing and cutting. No program in sight. -/
import Derived.Test.YtelfplepnodbgaaFt
namespace Go.Proofs.Gw
open Go Go.RowKit
set_option linter.unusedVariables false
set_option linter.unusedSimpArgs false

def rmd (a d : Int) : Int := (a.tmod d + d).tmod d
theorem rmd_emod {a d : Int} (hd : 1 ≤ d) : rmd a d = a % d := by
  unfold rmd
  have h1 := Int.tmod_eq_emod (a := a) (b := d)
  have h2 := Int.emod_nonneg a (show d ≠ 0 by omega)
  have h3 := Int.emod_lt_of_pos a (show 0 < d by omega)
  have hn : (d.natAbs : Int) = d := by omega
  by_cases h : 0 ≤ a ∨ d ∣ a
  · rw [if_pos h] at h1
    have h1' : a.tmod d = a % d := by omega
    rw [h1', Int.tmod_eq_emod_of_nonneg (by omega), Int.add_emod_right, Int.emod_emod]
  · rw [if_neg h] at h1
    have e : a.tmod d + d = a % d := by omega
    rw [e, Int.tmod_eq_emod_of_nonneg h2, Int.emod_emod]
theorem rmd_rng {a d : Int} (hd : 1 ≤ d) : 0 ≤ rmd a d ∧ rmd a d < d := by
  rw [rmd_emod hd]
  exact ⟨Int.emod_nonneg a (by omega), Int.emod_lt_of_pos a (by omega)⟩
theorem tmod_rng {a d : Int} (hd : 1 ≤ d) : -d < a.tmod d ∧ a.tmod d < d := by
  have h1 := Int.tmod_lt_of_pos a (show 0 < d by omega)
  have h2 := Int.lt_tmod_of_pos a (show 0 < d by omega)
  omega
/-- The row of the least variable of x that is no whole number, among the first k; -1: none. -/
def gfr (t : Tb) : Nat → Int
  | 0 => -1
  | k + 1 => if t.B k < t.vars ∧ (t.C (k + 1) 0).tmod t.den ≠ 0 ∧ (gfr t k < 0 ∨ t.B k < t.B (gfr t k)) then k else gfr t k
theorem gfr_rng (t : Tb) : ∀ k : Nat, gfr t k = -1 ∨ (0 ≤ gfr t k ∧ gfr t k < k)
  | 0 => .inl rfl
  | k + 1 => by
    have := gfr_rng t k
    simp only [gfr]; split <;> omega
theorem gfr_next (t : Tb) {i : Int} (h : 0 ≤ i) : gfr t (i + 1).toNat = if t.B i < t.vars ∧ (t.C (i + 1) 0).tmod t.den ≠ 0 ∧ (gfr t i.toNat < 0 ∨ t.B i < t.B (gfr t i.toNat)) then i else gfr t i.toNat := by
  obtain ⟨k, rfl⟩ := Int.eq_ofNat_of_zero_le h
  simp only [Int.toNat_natCast, show ((k : Int) + 1).toNat = k + 1 by omega, gfr]
theorem gfr_law (t : Tb) : ∀ k : Nat, (gfr t k = -1 → ∀ i : Int, 0 ≤ i → i < k → t.B i < t.vars → (t.C (i + 1) 0).tmod t.den = 0) ∧ (0 ≤ gfr t k → t.B (gfr t k) < t.vars ∧ (t.C (gfr t k + 1) 0).tmod t.den ≠ 0)
  | 0 => ⟨fun _ i h0 h1 => by omega, fun h => by simp [gfr] at h⟩
  | k + 1 => by
    have ih := gfr_law t k
    have hr := gfr_rng t k
    have e : gfr t (k + 1) = if t.B k < t.vars ∧ (t.C (k + 1) 0).tmod t.den ≠ 0 ∧ (gfr t k < 0 ∨ t.B k < t.B (gfr t k)) then (k : Int) else gfr t k := rfl
    rw [e]
    split
    · rename_i hc
      exact ⟨fun h => by omega, fun _ => ⟨hc.1, hc.2.1⟩⟩
    · rename_i hc
      refine ⟨fun h i h0 h1 hb => ?_, ih.2⟩
      by_cases hi : i < k
      · exact ih.1 h i h0 hi hb
      · obtain rfl : i = k := by omega
        exact Classical.not_not.1 fun hh => hc ⟨hb, hh, .inl (by omega)⟩
/-- What Fraction returns. -/
def FracR (t : Tb) (r : Int) (ok : Prop) (e : Int) : Prop := (¬ TPrp t ∧ r = 0 ∧ ¬ ok ∧ e = 1) ∨ (TPrp t ∧ r = max (gfr t t.nb.toNat) 0 ∧ (ok ↔ 0 ≤ gfr t t.nb.toNat) ∧ e = 0)
theorem FracR.same {t : Tb} {r r' e e' : Int} {ok ok' : Prop} (h : FracR t r ok e) (h' : FracR t r' ok' e') : r = r' ∧ (ok ↔ ok') ∧ e = e' := by
  rcases h with ⟨h1, h2, h3, h4⟩ | ⟨h1, h2, h3, h4⟩ <;> rcases h' with ⟨g1, g2, g3, g4⟩ | ⟨g1, g2, g3, g4⟩
  · exact ⟨by omega, ⟨fun h => absurd h h3, fun h => absurd h g3⟩, by omega⟩
  · exact absurd g1 h1
  · exact absurd h1 g1
  · exact ⟨by omega, h3.trans g3.symm, by omega⟩
/-- The numbers of a row's cut. -/
def cutF (t : Tb) (row : Int) : Int → Int := fun j => if j = 0 then -(rmd (t.C (row + 1) 0) t.den) else rmd (-(t.C (row + 1) j)) t.den
def CutR (t : Tb) (row : Int) (n : Int) (f : Int → Int) (e : Int) : Prop :=
  (¬ TPrp t ∧ n = 0 ∧ e = 1) ∨ (TPrp t ∧ ¬ (0 ≤ row ∧ row < t.nb) ∧ n = 0 ∧ e = 2) ∨ (TPrp t ∧ 0 ≤ row ∧ row < t.nb ∧ (t.C (row + 1) 0).tmod t.den = 0 ∧ n = 0 ∧ e = 8) ∨
    (TPrp t ∧ 0 ≤ row ∧ row < t.nb ∧ (t.C (row + 1) 0).tmod t.den ≠ 0 ∧ n = t.nf + 1 ∧ (∀ j, 0 ≤ j → j < n → f j = cutF t row j) ∧ e = 0)
theorem CutR.same {t : Tb} {row n n' e e' : Int} {f f' : Int → Int} (h : CutR t row n f e) (h' : CutR t row n' f' e') : n = n' ∧ (∀ j, 0 ≤ j → j < n → f j = f' j) ∧ e = e' := by
  rcases h with ⟨h1, h2, h3⟩ | ⟨h1, h2, h3, h4⟩ | ⟨h1, h2, h3, h4, h5, h6⟩ | ⟨h1, h2, h3, h4, h5, h6, h7⟩ <;> rcases h' with ⟨g1, g2, g3⟩ | ⟨g1, g2, g3, g4⟩ | ⟨g1, g2, g3, g4, g5, g6⟩ | ⟨g1, g2, g3, g4, g5, g6, g7⟩ <;>
    first
    | exact absurd ‹TPrp t› ‹¬ TPrp t›
    | exact absurd ⟨‹0 ≤ row›, ‹row < t.nb›⟩ ‹¬ (0 ≤ row ∧ row < t.nb)›
    | exact absurd ‹(t.C (row + 1) 0).tmod t.den = 0› ‹(t.C (row + 1) 0).tmod t.den ≠ 0›
    | exact ⟨by omega, fun j j0 j1 => by omega, by omega⟩
    | exact ⟨by omega, fun j j0 j1 => (h6 j j0 j1).trans (g6 j j0 (by omega)).symm, by omega⟩
/-- The tableau with a row's cut. -/
def addT (t : Tb) (row : Int) : Tb := ⟨t.vars, t.den, t.nb + 1, t.nf, t.nc + 1, gsn t.B t.nb (t.nb + t.nf), t.F, gsn t.ln t.nc (t.nf + 1), gsn t.C t.nc (cutF t row)⟩
def AddR (t : Tb) (row : Int) (t' : Tb) (e : Int) : Prop :=
  (¬ TPrp t ∧ t' = Tb.zero ∧ e = 1) ∨ (TPrp t ∧ ¬ (0 ≤ row ∧ row < t.nb) ∧ t' = Tb.zero ∧ e = 2) ∨ (TPrp t ∧ 0 ≤ row ∧ row < t.nb ∧ (t.C (row + 1) 0).tmod t.den = 0 ∧ t' = Tb.zero ∧ e = 8) ∨
    (TPrp t ∧ 0 ≤ row ∧ row < t.nb ∧ (t.C (row + 1) 0).tmod t.den ≠ 0 ∧ 16 ≤ t.nb ∧ t' = Tb.zero ∧ e = 9) ∨
    (TPrp t ∧ 0 ≤ row ∧ row < t.nb ∧ (t.C (row + 1) 0).tmod t.den ≠ 0 ∧ t.nb < 16 ∧ t' = addT t row ∧ e = 0)
theorem AddR.same {t t' t'' : Tb} {row e e' : Int} (h : AddR t row t' e) (h' : AddR t row t'' e') : t' = t'' ∧ e = e' := by
  rcases h with ⟨h1, h2, h3⟩ | ⟨h1, h2, h3, h4⟩ | ⟨h1, h2, h3, h4, h5, h6⟩ | ⟨h1, h2, h3, h4, h5, h6, h7⟩ | ⟨h1, h2, h3, h4, h5, h6, h7⟩ <;> rcases h' with ⟨g1, g2, g3⟩ | ⟨g1, g2, g3, g4⟩ | ⟨g1, g2, g3, g4, g5, g6⟩ | ⟨g1, g2, g3, g4, g5, g6, g7⟩ | ⟨g1, g2, g3, g4, g5, g6, g7⟩ <;>
    first
    | exact absurd ‹TPrp t› ‹¬ TPrp t›
    | exact absurd ⟨‹0 ≤ row›, ‹row < t.nb›⟩ ‹¬ (0 ≤ row ∧ row < t.nb)›
    | exact absurd ‹(t.C (row + 1) 0).tmod t.den = 0› ‹(t.C (row + 1) 0).tmod t.den ≠ 0›
    | (exfalso; omega)
    | (subst_vars; exact ⟨rfl, rfl⟩)
theorem addT_prp {t : Tb} (h : TPrp t) {row : Int} (r0 : 0 ≤ row) (r1 : row < t.nb) (hb : t.nb < 16) : TPrp (addT t row) := by
  have n1 := h.n1; have n2 := h.n2; have d1 := h.d1; have d2 := h.d2; have hc := h.c
  refine ⟨h.n1, h.n2, by show t.nb + 1 ≤ 16; omega, h.v, h.d1, h.d2, by show t.nc + 1 = t.nb + 1 + 1; omega, ?_, fun i i0 i1 => ?_⟩
  · show PermF (cat t.nf t.F (gsn t.B t.nb (t.nb + t.nf))) (t.nf + (t.nb + 1))
    have key : ∀ k, 0 ≤ k → k < t.nf + (t.nb + 1) → (k < t.nf + t.nb ∧ cat t.nf t.F (gsn t.B t.nb (t.nb + t.nf)) k = cat t.nf t.F t.B k) ∨ (k = t.nf + t.nb ∧ cat t.nf t.F (gsn t.B t.nb (t.nb + t.nf)) k = t.nb + t.nf) := fun k k0 k1 => by
      unfold cat
      by_cases e : k < t.nf
      · exact .inl ⟨by omega, by rw [if_pos e, if_pos e]⟩
      · rw [if_neg e, if_neg e]
        by_cases e2 : k - t.nf < t.nb
        · exact .inl ⟨by omega, gsn_lt e2⟩
        · exact .inr ⟨by omega, gsn_at e2⟩
    refine ⟨fun i i0 i1 => ?_, fun i j i0 i1 j0 j1 e => ?_⟩
    · rcases key i i0 i1 with ⟨h1, h2⟩ | ⟨h1, h2⟩
      · have := h.perm.1 i i0 h1; rw [h2]; omega
      · rw [h2]; omega
    · rcases key i i0 i1 with ⟨h1, h2⟩ | ⟨h1, h2⟩ <;> rcases key j j0 j1 with ⟨g1, g2⟩ | ⟨g1, g2⟩
      · rw [h2, g2] at e; exact h.perm.2 i j i0 h1 j0 g1 e
      · rw [h2, g2] at e; have := h.perm.1 i i0 h1; omega
      · rw [h2, g2] at e; have := h.perm.1 j j0 g1; omega
      · omega
  · have i2 : i < t.nc + 1 := i1
    by_cases e : i < t.nc
    · refine ⟨?_, fun j j0 j1 => ?_⟩
      · show gsn t.ln t.nc (t.nf + 1) i = t.nf + 1
        rw [gsn_lt e]; exact (h.rows i i0 e).1
      · have j2 : j < gsn t.ln t.nc (t.nf + 1) i := j1
        rw [gsn_lt e] at j2
        show -1073741824 ≤ gsn t.C t.nc (cutF t row) i j ∧ gsn t.C t.nc (cutF t row) i j ≤ 1073741824
        rw [gsn_lt e]; exact (h.rows i i0 e).2 j j0 j2
    · refine ⟨gsn_at e, fun j j0 j1 => ?_⟩
      show -1073741824 ≤ gsn t.C t.nc (cutF t row) i j ∧ gsn t.C t.nc (cutF t row) i j ≤ 1073741824
      rw [gsn_at e]
      have := rmd_rng (a := t.C (row + 1) 0) d1
      have := rmd_rng (a := -(t.C (row + 1) j)) d1
      unfold cutF; split <;> omega
theorem CutR.full {t : Tb} {row n e : Int} {f : Int → Int} (h : CutR t row n f e) (he : e = 0) : TPrp t ∧ 0 ≤ row ∧ row < t.nb ∧ (t.C (row + 1) 0).tmod t.den ≠ 0 ∧ n = t.nf + 1 ∧ ∀ j, 0 ≤ j → j < n → f j = cutF t row j := by
  rcases h with ⟨h1, h2, h3⟩ | ⟨h1, h2, h3, h4⟩ | ⟨h1, h2, h3, h4, h5, h6⟩ | ⟨h1, h2, h3, h4, h5, h6, h7⟩ <;> first | (exfalso; omega) | exact ⟨h1, h2, h3, h4, h5, h6⟩
theorem CutR.bad {t : Tb} {row n e : Int} {f : Int → Int} (h : CutR t row n f e) (he : e ≠ 0) : AddR t row Tb.zero e := by
  rcases h with ⟨h1, h2, h3⟩ | ⟨h1, h2, h3, h4⟩ | ⟨h1, h2, h3, h4, h5, h6⟩ | ⟨h1, h2, h3, h4, h5, h6, h7⟩
  · exact .inl ⟨h1, rfl, h3⟩
  · exact .inr (.inl ⟨h1, h2, rfl, h4⟩)
  · exact .inr (.inr (.inl ⟨h1, h2, h3, h4, rfl, h6⟩))
  · exact absurd h7 he
theorem FracR.rng {t : Tb} {r e : Int} {ok : Prop} (h : FracR t r ok e) : 0 ≤ r ∧ r ≤ t.nb.toNat := by
  have := gfr_rng t t.nb.toNat
  rcases h with ⟨_, h, _⟩ | ⟨_, h, _⟩ <;> omega
theorem AddR.nb {t t' : Tb} {row e : Int} (h : AddR t row t' e) (he : e = 0) : t'.nb = t.nb + 1 := by
  rcases h with ⟨_, _, h⟩ | ⟨_, _, _, h⟩ | ⟨_, _, _, _, _, h⟩ | ⟨_, _, _, _, _, _, h⟩ | ⟨_, _, _, _, _, rfl, _⟩ <;> first | omega | rfl
end Go.Proofs.Gw
