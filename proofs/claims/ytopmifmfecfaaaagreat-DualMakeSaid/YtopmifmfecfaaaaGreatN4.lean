/- The walk of MasterRead. -/
import Derived.Test.YtopmifmfecfaaaaGreatGv
import Derived.Test.YtopmifmfecfaaaaGreatM12
import Derived.Test.YtopmifmfecfaaaaGreatFw
import Derived.Laws.StructEq
import Derived.Test.YtopmifmfecfaaaaGreatGu
namespace Go.Proofs.YtopmifmfecfaaaaGreat
open Go Go.RowKit Go.Proofs.Gw
set_option linter.unusedVariables false

def pMx : Prob := ⟨2, fun k => [5, 3].getD k.toNat 0, 2, fun k => [2, 3].getD k.toNat 0, 11, 1⟩
def nMx : Int := stN pMx 2
def lMx : Lp := lpOf pMx (stN pMx 2) (stG pMx 2)
def tMx1 : Tb := piv (startT lMx) 0 0
def tMx2 : Tb := piv tMx1 1 1
/-- The plan of the whole uses. -/
def flN (s : So) : Nat → Int
  | 0 => 0
  | k + 1 => if s.den ≤ s.X k then flN s k + 1 else flN s k
def flL (s : So) (ml : Int → Int) : Nat → Int → Int
  | 0 => fun _ => 0
  | k + 1 => if s.den ≤ s.X k then gsn (flL s ml k) (flN s k) (ml k) else flL s ml k
def flG (s : So) (mf : Int → Int → Int) : Nat → Int → Int → Int
  | 0 => fun _ _ => 0
  | k + 1 => if s.den ≤ s.X k then gsn (flG s mf k) (flN s k) (mf k) else flG s mf k
def flC (s : So) : Nat → Int → Int
  | 0 => fun _ => 0
  | k + 1 => if s.den ≤ s.X k then snoc (flC s k) (flN s k) ((s.X k).tdiv s.den) else flC s k
theorem flN_rng (s : So) : ∀ k : Nat, 0 ≤ flN s k ∧ flN s k ≤ k
  | 0 => by simp [flN]
  | k + 1 => by
    have := flN_rng s k
    simp only [flN]; split <;> omega
def FloorR (s : So) (u : Int) (ml : Int → Int) (mf : Int → Int → Int) (n : Int) (ln : Int → Int) (pt : Int → Int → Int) (cnt : Int → Int) (e : Int) : Prop :=
  (¬ (SoundS s ∧ u = s.n) ∧ n = 0 ∧ e = 1) ∨ (SoundS s ∧ u = s.n ∧ n = flN s u.toNat ∧ ln = flL s ml u.toNat ∧ pt = flG s mf u.toNat ∧ cnt = flC s u.toNat ∧ e = 0)
theorem FloorR.rng {s : So} {u : Int} {ml : Int → Int} {mf : Int → Int → Int} {n e : Int} {ln cnt : Int → Int} {pt : Int → Int → Int} (hu : 0 ≤ u) (h : FloorR s u ml mf n ln pt cnt e) : 0 ≤ n ∧ n ≤ u := by
  rcases h with ⟨_, h, _⟩ | ⟨_, _, h, _⟩
  · omega
  · have := flN_rng s u.toNat; omega
theorem FloorR.same {s : So} {u : Int} {ml : Int → Int} {mf : Int → Int → Int} {n n2 e e2 : Int} {ln ln2 cnt cnt2 : Int → Int} {pt pt2 : Int → Int → Int} (h : FloorR s u ml mf n ln pt cnt e) (h' : FloorR s u ml mf n2 ln2 pt2 cnt2 e2) : SameP n n2 ln ln2 pt pt2 cnt cnt2 ∧ e = e2 := by
  rcases h with ⟨h1, h2, h3⟩ | ⟨h1, h2, h3, h4, h5, h6, h7⟩ <;> rcases h' with ⟨g1, g2, g3⟩ | ⟨g1, g2, g3, g4, g5, g6, g7⟩
  · exact ⟨⟨by omega, fun k k0 k1 => by omega⟩, by omega⟩
  · exact absurd ⟨g1, g2⟩ h1
  · exact absurd ⟨h1, h2⟩ g1
  · rw [h3, h4, h5, h6, h7, g3, g4, g5, g6, g7]; exact ⟨⟨rfl, fun _ _ _ => ⟨rfl, rfl, fun _ _ _ => rfl⟩⟩, rfl⟩

def FracR (s : So) (k : Int) (ok : Prop) : Prop := (¬ SoundS s ∧ k = 0 ∧ ¬ ok) ∨ (SoundS s ∧ (∀ j, 0 ≤ j → j < s.n → (s.X j).tmod s.den = 0) ∧ k = 0 ∧ ¬ ok) ∨ (SoundS s ∧ 0 ≤ k ∧ k < s.n ∧ (s.X k).tmod s.den ≠ 0 ∧ (∀ j, 0 ≤ j → j < k → (s.X j).tmod s.den = 0) ∧ ok)
theorem FracR.same {s : So} {k k2 : Int} {ok ok2 : Prop} (h : FracR s k ok) (h' : FracR s k2 ok2) : k = k2 ∧ (ok ↔ ok2) := by
  rcases h with ⟨h1, h2, h3⟩ | ⟨h1, h2, h3, h4⟩ | ⟨h1, h2, h3, h4, h5, h6⟩ <;> rcases h' with ⟨g1, g2, g3⟩ | ⟨g1, g2, g3, g4⟩ | ⟨g1, g2, g3, g4, g5, g6⟩ <;>
    first
    | exact absurd ‹SoundS s› ‹¬ SoundS s›
    | exact ⟨by omega, fun h => absurd h ‹¬ ok›, fun h => absurd h ‹¬ ok2›⟩
    | exact absurd (g2 k (by omega) (by omega)) (by assumption)
    | exact absurd (h2 k2 (by omega) (by omega)) (by assumption)
    | (refine ⟨?_, fun _ => g6, fun _ => h6⟩
       rcases Int.lt_trichotomy k k2 with h | h | h
       · exact absurd (g5 k (by omega) h) h4
       · exact h
       · exact absurd (h5 k2 (by omega) h) g4)

end Go.Proofs.YtopmifmfecfaaaaGreat
