/- Solutions of linear programs, plain: sums of products, what a solution proves. -/
import Derived.Test.YtopmifmfecfaaaaFt
import Derived.Test.YtopmifmfecfaaaaFs
namespace Go.Proofs.Gw
open Go Go.RowKit
set_option linter.unusedVariables false
set_option linter.unusedSimpArgs false

theorem StartR.ok {p : Lp} {t : Tb} {e : Int} (h : StartR p t e) (he : e = 0) : LOk p ∧ t = startT p := by
  rcases h with ⟨_, _, h⟩ | ⟨h1, h2, _⟩
  · omega
  · exact ⟨h1, h2⟩
theorem StartR.err {p : Lp} {t : Tb} {e : Int} (h : StartR p t e) (he : e ≠ 0) : ¬ LOk p ∧ e = 1 := by
  rcases h with ⟨h1, _, h⟩ | ⟨h1, h2, h⟩
  · exact ⟨h1, h⟩
  · exact absurd h he
/-- The sum of the first n products. -/
def dotp (f g : Int → Int) (n : Nat) : Int := sumTo (fun k => f k * g k) n
theorem dotp_next (f g : Int → Int) {i : Int} (h : 0 ≤ i) : dotp f g (i + 1).toNat = dotp f g i.toNat + f i * g i := sumTo_next _ h
theorem dotp_bd {f g : Int → Int} {A B : Int} (hA : 0 ≤ A) (hB : 0 ≤ B) : ∀ (n : Nat), (∀ k : Int, 0 ≤ k → k < n → -A ≤ f k ∧ f k ≤ A) → (∀ k : Int, 0 ≤ k → k < n → -B ≤ g k ∧ g k ≤ B) → -(n * (A * B)) ≤ dotp f g n ∧ dotp f g n ≤ n * (A * B)
  | 0, _, _ => by simp [dotp, sumTo]
  | n + 1, hf, hg => by
    have h1 := dotp_bd hA hB n (fun k k0 k1 => hf k k0 (by omega)) (fun k k0 k1 => hg k k0 (by omega))
    have h2 := mul_abs (hf n (by omega) (by omega)) (hg n (by omega) (by omega))
    have h3 := dotp_next f g (i := n) (by omega)
    rw [show ((n : Int) + 1).toNat = n + 1 by omega, show (n : Int).toNat = n by omega] at h3
    have h4 : ((n + 1 : Nat) : Int) * (A * B) = n * (A * B) + A * B := by rw [Int.natCast_add, Int.add_mul]; simp
    omega
/-- The sum over the first rows of the numbers in a column times the prices. -/
def wgt (A : Int → Int → Int) (y : Int → Int) (n : Nat) (j : Int) : Int := sumTo (fun i => A i j * y i) n
theorem wgt_next (A : Int → Int → Int) (y : Int → Int) {i : Int} (h : 0 ≤ i) (j : Int) : wgt A y (i + 1).toNat j = wgt A y i.toNat j + A i j * y i := sumTo_next _ h
theorem wgt_dotp (A : Int → Int → Int) (y : Int → Int) (n : Nat) (j : Int) : wgt A y n j = dotp (fun i => A i j) y n := rfl
structure ChkS (p : Lp) (s : So) : Prop where
  ok : LOk p
  d1 : 1 ≤ s.den
  d2 : s.den ≤ 1073741824
  v : -1073741824 ≤ s.val ∧ s.val ≤ 1073741824
  n : s.n = p.n
  m : s.m = p.m
  X : ∀ j, 0 ≤ j → j < p.n → 0 ≤ s.X j ∧ s.X j ≤ 1073741824
  Y : ∀ i, 0 ≤ i → i < p.m → 0 ≤ s.Y i ∧ s.Y i ≤ 1073741824
  rows : ∀ i, 0 ≤ i → i < p.m → p.b i * s.den ≤ dotp (p.A i) s.X p.n.toNat
  cols : ∀ j, 0 ≤ j → j < p.n → wgt p.A s.Y p.m.toNat j ≤ p.c j * s.den
  cX : dotp p.c s.X p.n.toNat = s.val
  bY : dotp p.b s.Y p.m.toNat = s.val
def FewP (p : Lp) : Prop := (∀ i, 0 ≤ i → i < p.m → p.ln i ≤ 20) ∧ p.n ≤ 12 ∧ p.m ≤ 8 ∧ p.k ≤ 20
/-- The cost of x, if x is permitted. -/
def PermR (p : Lp) (x : Int → Int) (c : Int) (ok : Bool) : Prop :=
  ((∃ i, 0 ≤ i ∧ i < p.m ∧ dotp (p.A i) x p.n.toNat < p.b i) ∧ c = 0 ∧ ok = false) ∨ ((∀ i, 0 ≤ i → i < p.m → p.b i ≤ dotp (p.A i) x p.n.toNat) ∧ c = dotp p.c x p.n.toNat ∧ ok = true)
end Go.Proofs.Gw
