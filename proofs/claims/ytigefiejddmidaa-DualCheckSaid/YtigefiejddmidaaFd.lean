/- Certificates, plain: what Check and Bound give. No program in sight. -/
import Derived.Test.YtigefiejddmidaaFk
namespace Go.Proofs.Gw
open Go Go.RowKit

/-- What Check gives: 1 the arguments are not right, 21 the bound does not hold, 0 it holds. -/
noncomputable def Chk (p : Prob) (n : Int) (y : Int → Int) (q : Int) : Int :=
  @ite _ (p.Ok ∧ Formed n y q ∧ n = p.m) (Classical.propDecidable _) (if q < Worth p y then 21 else 0) 1
theorem chk1 {p : Prob} {n : Int} {y : Int → Int} {q : Int} (h : ¬ p.Ok ∨ ¬ Formed n y q ∨ n ≠ p.m) : Chk p n y q = 1 := by
  unfold Chk; rw [if_neg]
  rintro ⟨h1, h2, h3⟩
  rcases h with h | h | h <;> exact h ‹_›
theorem chk21 {p : Prob} {n : Int} {y : Int → Int} {q : Int} (h1 : p.Ok) (h2 : Formed n y q) (h3 : n = p.m) (h : q < Worth p y) : Chk p n y q = 21 := by
  unfold Chk; rw [if_pos ⟨h1, h2, h3⟩, if_pos h]
theorem chk0 {p : Prob} {n : Int} {y : Int → Int} {q : Int} (h1 : p.Ok) (h2 : Formed n y q) (h3 : n = p.m) (h : ¬ q < Worth p y) : Chk p n y q = 0 := by
  unfold Chk; rw [if_pos ⟨h1, h2, h3⟩, if_neg h]
theorem chk_ok {p : Prob} {n : Int} {y : Int → Int} {q : Int} (h : Chk p n y q = 0) : p.Ok ∧ Formed n y q ∧ n = p.m ∧ Worth p y ≤ q := by
  by_cases h1 : p.Ok ∧ Formed n y q ∧ n = p.m
  · by_cases h2 : q < Worth p y
    · rw [chk21 h1.1 h1.2.1 h1.2.2 h2] at h; omega
    · exact ⟨h1.1, h1.2.1, h1.2.2, by omega⟩
  · have : Chk p n y q = 1 := by unfold Chk; rw [if_neg h1]
    omega
theorem chk_cases (p : Prob) (n : Int) (y : Int → Int) (q : Int) : Chk p n y q = 0 ∨ Chk p n y q = 1 ∨ Chk p n y q = 21 := by
  unfold Chk; split
  · split <;> omega
  · omega
/-- The sum of demands times prices. -/
def Tot (D y : Int → Int) : Nat → Int
  | 0 => 0
  | k + 1 => Tot D y k + D k * y k
theorem Tot_next (D y : Int → Int) {i : Int} (h : 0 ≤ i) : Tot D y (i + 1).toNat = Tot D y i.toNat + D i * y i := by
  rw [show (i + 1).toNat = i.toNat + 1 by omega]
  simp only [Tot]
  rw [show ((i.toNat : Nat) : Int) = i by omega]
theorem mul_rng {a b A B : Int} (h1 : 0 ≤ a) (h2 : a ≤ A) (h3 : 0 ≤ b) (h4 : b ≤ B) : 0 ≤ a * b ∧ a * b ≤ A * B :=
  ⟨Int.mul_nonneg h1 h3, Int.mul_le_mul h2 h4 h3 (by omega)⟩
theorem Tot_bound {D y : Int → Int} {m A : Int} (hA : 0 ≤ A) (h : ∀ k, 0 ≤ k → k < m → 0 ≤ D k * y k ∧ D k * y k ≤ A) : ∀ k : Nat, (k : Int) ≤ m → 0 ≤ Tot D y k ∧ Tot D y k ≤ k * A
  | 0, _ => by simp [Tot]
  | k + 1, hk => by
    have h1 := Tot_bound hA h k (by omega)
    have h2 := h k (by omega) (by omega)
    simp only [Tot]
    have e : ((k + 1 : Nat) : Int) * A = k * A + A := by rw [Int.natCast_add, Int.add_mul]; simp
    omega
theorem Formed.priced {p : Prob} {n : Int} {y : Int → Int} {q : Int} (h : Formed n y q) (e : n = p.m) : Priced p y := fun k h0 h1 => h.2.2 k h0 (by omega)
theorem tot_rng {p : Prob} (hp : p.Ok) {y : Int → Int} (hy : Priced p y) (k : Int) (h0 : 0 ≤ k) (h1 : k < p.m) : 0 ≤ p.D k * y k ∧ p.D k * y k ≤ 1073741824000 := by
  have h2 := hp.all k h0 h1
  unfold Prob.each at h2
  have h3 := hy k h0 h1
  have := mul_rng (A := 1000) (B := 1073741824) h2.2.2.2.1 h2.2.2.2.2 h3.1 h3.2
  omega
theorem tot_bd {p : Prob} (hp : p.Ok) {y : Int → Int} (hy : Priced p y) (k : Int) (h0 : 0 ≤ k) (h1 : k ≤ p.m) : 0 ≤ Tot p.D y k.toNat ∧ Tot p.D y k.toNat ≤ 21474836480000 := by
  have h := Tot_bound (D := p.D) (y := y) (m := p.m) (A := 1073741824000) (by omega) (fun k h0 h1 => tot_rng hp hy k h0 h1) k.toNat (by omega)
  have := hp.m2
  have e : ((k.toNat : Nat) : Int) = k := by omega
  rw [e] at h
  omega
/-- What a right certificate proves. -/
def Bnd (p : Prob) (y : Int → Int) (q : Int) : Int := (Tot p.D y p.m.toNat + q - 1).tdiv q
noncomputable def BndOf (p : Prob) (n : Int) (y : Int → Int) (q : Int) : Int := if Chk p n y q = 0 then Bnd p y q else 0
/-- Few problems, few prices. -/
def Few28 (p : Prob) : Prop := p.m ≤ 25 ∧ p.d ≤ 25 ∧ (p.Ok → (∀ i, 0 ≤ i → i < p.d → p.D i ≤ 30) ∧ p.m ≤ 6 ∧ p.stock ≤ 12 * p.L (p.m - 1))
/-- A list of numbers as a function. -/
theorem litb (l : List Int) (h : (l.all fun n => decide (-9223372036854775808 ≤ n) && decide (n ≤ 9223372036854775807)) = true) (k : Int) : -9223372036854775808 ≤ l.getD k.toNat 0 ∧ l.getD k.toNat 0 ≤ 9223372036854775807 := by
  rw [List.getD_eq_getElem?_getD]
  cases hk : l[k.toNat]? with
  | none => simp
  | some n =>
    have := List.all_eq_true.1 h n (List.mem_of_getElem? hk)
    rw [Bool.and_eq_true, decide_eq_true_eq, decide_eq_true_eq] at this
    simpa using this
/-! The example of the document. -/
def p0 : Prob := ⟨2, fun k => [6, 4].getD k.toNat 0, 2, fun k => [4, 4].getD k.toNat 0, 10, 0⟩
def y0 : Int → Int := fun k => [1, 0].getD k.toNat 0
def y1 : Int → Int := fun k => [1, 1].getD k.toNat 0
theorem two {P : Int → Prop} (h0 : P 0) (h1 : P 1) : ∀ i : Int, 0 ≤ i → i < 2 → P i := fun i a b => by
  have : i = 0 ∨ i = 1 := by omega
  rcases this with rfl | rfl
  · exact h0
  · exact h1
theorem p0_ok : p0.Ok := ⟨by decide, by decide, rfl, by decide, by decide, by decide, by decide, two (by unfold Prob.each; decide) (by unfold Prob.each; decide)⟩
theorem y0_ok : Formed 2 y0 1 := ⟨by decide, by decide, two (by decide) (by decide)⟩
theorem y1_ok : Formed 2 y1 1 := ⟨by decide, by decide, two (by decide) (by decide)⟩
theorem chk_p0 : Chk p0 2 y0 1 = 0 := chk0 p0_ok y0_ok rfl (by decide)
theorem chk_p1 : Chk p0 2 y1 1 = 21 := chk21 p0_ok y1_ok rfl (by decide)
theorem bnd_p0 : BndOf p0 2 y0 1 = 4 := by unfold BndOf; rw [if_pos chk_p0]; decide
theorem bnd_ok {p : Prob} {n : Int} {y : Int → Int} {q : Int} (h : Chk p n y q = 0) : BndOf p n y q = Bnd p y q := by unfold BndOf; rw [if_pos h]
theorem bnd_no {p : Prob} {n : Int} {y : Int → Int} {q : Int} (h : Chk p n y q ≠ 0) : BndOf p n y q = 0 := by unfold BndOf; rw [if_neg h]
end Go.Proofs.Gw
