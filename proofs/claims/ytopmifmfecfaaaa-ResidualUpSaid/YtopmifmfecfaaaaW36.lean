/- The walks of SameSolution and TableauSolve. -/
import Derived.Test.YtopmifmfecfaaaaGv
import Derived.Test.YtopmifmfecfaaaaW8
import Derived.Test.YtopmifmfecfaaaaFi
namespace Go.Proofs.Ytopmifmfecfaaaa
open Go Go.RowKit Go.Proofs.Gw
set_option linter.unusedVariables false

def SameT (t u : Tb) : Prop := t.vars = u.vars ∧ t.den = u.den ∧ (t.nb = u.nb ∧ ∀ k, 0 ≤ k → k < t.nb → t.B k = u.B k) ∧ (t.nf = u.nf ∧ ∀ k, 0 ≤ k → k < t.nf → t.F k = u.F k) ∧ t.nc = u.nc ∧ ∀ i, 0 ≤ i → i < t.nc → (t.ln i) = (u.ln i) ∧ ∀ j, 0 ≤ j → j < (t.ln i) → (t.C i) j = (u.C i) j

def LitP (t : Tb) : Prop := (∀ k, 0 ≤ k → k < t.nc → t.ln k ≤ 20) ∧ t.nf ≤ 12 ∧ t.nb ≤ 8 ∧ t.nc ≤ 20

theorem all_cat (t : Tb) {k : Int} (k0 : 0 ≤ k) : (cat t.nb (cat 0 (fun _ => 0) t.B) t.F) k = cat t.nb t.B t.F k := by
  unfold cat; (repeat' split) <;> first | rfl | omega | (congr 1; omega)
theorem all_perm {t : Tb} (hp : TPrp t) (hm : 0 ≤ t.nb) : PermF (cat t.nb (cat 0 (fun _ => 0) t.B) t.F) (t.nb + t.nf) :=
  (perm_swap (by have := hp.n1; omega) hm hp.perm).congr fun k k0 _ => (all_cat t k0).symm

theorem piv_prp {t : Tb} {row col : Int} (ha : pargs t row col) (hb : ∀ a b, 0 ≤ a → a ≤ t.nb → 0 ≤ b → b ≤ t.nf → -1073741824 ≤ pcell t (row + 1) (col + 1) a b ∧ pcell t (row + 1) (col + 1) a b ≤ 1073741824) : TPrp (piv t row col) := by
  obtain ⟨hp, r0, r1, c0, c1, hne⟩ := ha
  have hcl := hp.cell (i := row + 1) (j := col + 1) (by omega) (by omega) (by omega) (by omega)
  have hs := sg_cases (t.C (row + 1) (col + 1))
  have hden : 1 ≤ (piv t row col).den ∧ (piv t row col).den ≤ 1073741824 := by
    rw [piv_den]; unfold sg; split <;> omega
  have hcc := hp.c
  refine ⟨hp.n1, hp.n2, hp.m2, hp.v, hden.1, hden.2, hp.c, ?_, fun i i0 i1 => ⟨(hp.rows i i0 i1).1, fun j j0 j1 => ?_⟩⟩
  · have tr : ∀ i, 0 ≤ i → i < t.nf + t.nb → ∃ k, 0 ≤ k ∧ k < t.nf + t.nb ∧ cat t.nf (upd t.F col (t.B row)) (upd t.B row (t.F col)) i = cat t.nf t.F t.B k ∧ (i = col → k = t.nf + row) ∧ (i = t.nf + row → k = col) ∧ (i ≠ col → i ≠ t.nf + row → k = i) := fun i i0 i1 => by
      by_cases e1 : i = col
      · refine ⟨t.nf + row, by omega, by omega, ?_, fun _ => rfl, fun h => by omega, fun h => absurd e1 h⟩
        unfold cat; rw [if_pos (by omega), if_neg (by omega), e1, upd_self]; congr 1; omega
      · by_cases e2 : i = t.nf + row
        · refine ⟨col, by omega, by omega, ?_, fun h => by omega, fun _ => rfl, fun _ h => absurd e2 h⟩
          unfold cat; rw [if_neg (by omega), if_pos (by omega), e2, show t.nf + row - t.nf = row by omega, upd_self]
        · refine ⟨i, by omega, by omega, ?_, fun h => by omega, fun h => by omega, fun _ _ => rfl⟩
          unfold cat; split
          · rw [upd_ne _ _ e1]
          · rw [upd_ne _ _ (by omega)]
    refine ⟨fun i i0 i1 => ?_, fun i j i0 i1 j0 j1 e => ?_⟩
    · obtain ⟨k, k0, k1, e, _⟩ := tr i i0 i1
      have := hp.perm.1 k k0 k1
      have h3 : 0 ≤ cat t.nf (upd t.F col (t.B row)) (upd t.B row (t.F col)) i ∧ cat t.nf (upd t.F col (t.B row)) (upd t.B row (t.F col)) i < t.nf + t.nb := by rw [e]; exact this
      exact h3
    · obtain ⟨k, k0, k1, e1, x1, x2, x3⟩ := tr i i0 i1
      obtain ⟨q, q0, q1, e2, y1, y2, y3⟩ := tr j j0 j1
      have := hp.perm.2 k q k0 k1 q0 q1 (by rw [← e1, ← e2]; exact e)
      by_cases a1 : i = col <;> by_cases a2 : i = t.nf + row <;> by_cases b1 : j = col <;> by_cases b2 : j = t.nf + row <;> simp only [a1, a2, b1, b2, true_implies, false_implies, not_true, not_false_eq_true, ne_eq] at x1 x2 x3 y1 y2 y3 <;> omega
  · have h1 : t.ln i = t.nf + 1 := (hp.rows i i0 i1).1
    have j2 : j < t.ln i := j1
    have i2 : i < t.nc := i1
    have := hb i j i0 (by omega) j0 (by omega)
    rw [piv_C]
    rcases hs with h | h <;> rw [h] <;> omega


def OptR (t t' : Tb) (e : Int) : Prop := ∃ u f, Run 1000 t u f ∧ ((f = 0 ∧ e = 0 ∧ t' = u) ∨ (f ≠ 0 ∧ e = f ∧ t' = Tb.zero))
theorem OptR.same {t t1 t2 : Tb} {e1 e2 : Int} (h1 : OptR t t1 e1) (h2 : OptR t t2 e2) : t1 = t2 ∧ e1 = e2 := by
  obtain ⟨u, f, hr, h⟩ := h1
  obtain ⟨u', f', hr', h'⟩ := h2
  obtain ⟨rfl, rfl⟩ := hr.same hr'
  rcases h with ⟨a1, a2, a3⟩ | ⟨a1, a2, a3⟩ <;> rcases h' with ⟨b1, b2, b3⟩ | ⟨b1, b2, b3⟩
  · exact ⟨by rw [a3, b3], by omega⟩
  · exact absurd a1 b1
  · exact absurd b1 a1
  · exact ⟨by rw [a3, b3], by omega⟩

def SameS (s u : So) : Prop := (s.n = u.n ∧ ∀ k, 0 ≤ k → k < s.n → s.X k = u.X k) ∧ (s.m = u.m ∧ ∀ k, 0 ≤ k → k < s.m → s.Y k = u.Y k) ∧ s.val = u.val ∧ s.den = u.den
theorem SameS.refl (s : So) : SameS s s := ⟨⟨rfl, fun _ _ _ => rfl⟩, ⟨rfl, fun _ _ _ => rfl⟩, rfl, rfl⟩

end Go.Proofs.Ytopmifmfecfaaaa
