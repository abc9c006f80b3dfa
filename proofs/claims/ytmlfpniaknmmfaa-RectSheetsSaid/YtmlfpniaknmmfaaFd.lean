/- Certificates, plain: what Check and Bound give. No program in sight. -/
import Derived.Test.YtmlfpniaknmmfaaFk
namespace Go.Proofs.Gw
open Go Go.RowKit
set_option linter.unusedVariables false
set_option linter.unusedSimpArgs false

/-- What Check gives: 1 the arguments are not right, 21 the bound does not hold, 0 it holds. -/
noncomputable def Chk (p : Prob) (n : Int) (y : Int → Int) (q : Int) : Int :=
  @ite _ (p.Ok ∧ Formed n y q ∧ n = p.m) (Classical.propDecidable _) (if q < Worth p y then 21 else 0) 1
theorem chk1 {p : Prob} {n : Int} {y : Int → Int} {q : Int} (h : ¬ p.Ok ∨ ¬ Formed n y q ∨ n ≠ p.m) : Chk p n y q = 1 := by
  unfold Chk; rw [if_neg]
  rintro ⟨h1, h2, h3⟩
  rcases h with h | h | h <;> exact h ‹_›
theorem chk21 {p : Prob} {n : Int} {y : Int → Int} {q : Int} (h1 : p.Ok) (h2 : Formed n y q) (h3 : n = p.m) (h : q < Worth p y) : Chk p n y q = 21 := by
  unfold Chk; rw [if_pos ⟨h1, h2, h3⟩, if_pos h]
theorem chk0 {p : Prob} {n : Int} {y : Int → Int} {q : Int} (h1 : p.Ok) (h2 : Formed n y q) (h3 : n = p.m) (h : ¬ q < Worth p y) : Chk p n y q = 0 := by
  unfold Chk; rw [if_pos ⟨h1, h2, h3⟩, if_neg h]
theorem chk_ok {p : Prob} {n : Int} {y : Int → Int} {q : Int} (h : Chk p n y q = 0) : p.Ok ∧ Formed n y q ∧ n = p.m ∧ Worth p y ≤ q := by
  by_cases h1 : p.Ok ∧ Formed n y q ∧ n = p.m
  · by_cases h2 : q < Worth p y
    · rw [chk21 h1.1 h1.2.1 h1.2.2 h2] at h; omega
    · exact ⟨h1.1, h1.2.1, h1.2.2, by omega⟩
  · have : Chk p n y q = 1 := by unfold Chk; rw [if_neg h1]
    omega
theorem chk_cases (p : Prob) (n : Int) (y : Int → Int) (q : Int) : Chk p n y q = 0 ∨ Chk p n y q = 1 ∨ Chk p n y q = 21 := by
  unfold Chk; split
  · split <;> omega
  · omega
/-- The sum of demands times prices. -/
def Tot (D y : Int → Int) : Nat → Int
  | 0 => 0
  | k + 1 => Tot D y k + D k * y k
theorem Tot_next (D y : Int → Int) {i : Int} (h : 0 ≤ i) : Tot D y (i + 1).toNat = Tot D y i.toNat + D i * y i := by
  rw [show (i + 1).toNat = i.toNat + 1 by omega]
  simp only [Tot]
  rw [show ((i.toNat : Nat) : Int) = i by omega]
theorem mul_rng {a b A B : Int} (h1 : 0 ≤ a) (h2 : a ≤ A) (h3 : 0 ≤ b) (h4 : b ≤ B) : 0 ≤ a * b ∧ a * b ≤ A * B :=
  ⟨Int.mul_nonneg h1 h3, Int.mul_le_mul h2 h4 h3 (by omega)⟩
theorem Tot_bound {D y : Int → Int} {m A : Int} (hA : 0 ≤ A) (h : ∀ k, 0 ≤ k → k < m → 0 ≤ D k * y k ∧ D k * y k ≤ A) : ∀ k : Nat, (k : Int) ≤ m → 0 ≤ Tot D y k ∧ Tot D y k ≤ k * A
  | 0, _ => by simp [Tot]
  | k + 1, hk => by
    have h1 := Tot_bound hA h k (by omega)
    have h2 := h k (by omega) (by omega)
    simp only [Tot]
    have e : ((k + 1 : Nat) : Int) * A = k * A + A := by rw [Int.natCast_add, Int.add_mul]; simp
    omega
theorem Formed.priced {p : Prob} {n : Int} {y : Int → Int} {q : Int} (h : Formed n y q) (e : n = p.m) : Priced p y := fun k h0 h1 => h.2.2 k h0 (by omega)
theorem tot_rng {p : Prob} (hp : p.Ok) {y : Int → Int} (hy : Priced p y) (k : Int) (h0 : 0 ≤ k) (h1 : k < p.m) : 0 ≤ p.D k * y k ∧ p.D k * y k ≤ 1073741824000 := by
  have h2 := hp.all k h0 h1
  unfold Prob.each at h2
  have h3 := hy k h0 h1
  have := mul_rng (A := 1000) (B := 1073741824) h2.2.2.2.1 h2.2.2.2.2 h3.1 h3.2
  omega
theorem tot_bd {p : Prob} (hp : p.Ok) {y : Int → Int} (hy : Priced p y) (k : Int) (h0 : 0 ≤ k) (h1 : k ≤ p.m) : 0 ≤ Tot p.D y k.toNat ∧ Tot p.D y k.toNat ≤ 21474836480000 := by
  have h := Tot_bound (D := p.D) (y := y) (m := p.m) (A := 1073741824000) (by omega) (fun k h0 h1 => tot_rng hp hy k h0 h1) k.toNat (by omega)
  have := hp.m2
  have e : ((k.toNat : Nat) : Int) = k := by omega
  rw [e] at h
  omega
/-- What a right certificate proves. -/
def Bnd (p : Prob) (y : Int → Int) (q : Int) : Int := (Tot p.D y p.m.toNat + q - 1).tdiv q
noncomputable def BndOf (p : Prob) (n : Int) (y : Int → Int) (q : Int) : Int := if Chk p n y q = 0 then Bnd p y q else 0
/-- Few problems, few prices. -/
def Few28 (p : Prob) : Prop := p.m ≤ 25 ∧ p.d ≤ 25 ∧ (p.Ok → (∀ i, 0 ≤ i → i < p.d → p.D i ≤ 30) ∧ p.m ≤ 6 ∧ p.stock ≤ 12 * p.L (p.m - 1))
/-- A list of numbers as a function. -/
theorem litb (l : List Int) (h : (l.all fun n => decide (-9223372036854775808 ≤ n) && decide (n ≤ 9223372036854775807)) = true) (k : Int) : -9223372036854775808 ≤ l.getD k.toNat 0 ∧ l.getD k.toNat 0 ≤ 9223372036854775807 := by
  rw [List.getD_eq_getElem?_getD]
  cases hk : l[k.toNat]? with
  | none => simp
  | some n =>
    have := List.all_eq_true.1 h n (List.mem_of_getElem? hk)
    rw [Bool.and_eq_true, decide_eq_true_eq, decide_eq_true_eq] at this
    simpa using this
/-! The example of the document. -/
def p0 : Prob := ⟨2, fun k => [6, 4].getD k.toNat 0, 2, fun k => [4, 4].getD k.toNat 0, 10, 0⟩
def y0 : Int → Int := fun k => [1, 0].getD k.toNat 0
def y1 : Int → Int := fun k => [1, 1].getD k.toNat 0
theorem two {P : Int → Prop} (h0 : P 0) (h1 : P 1) : ∀ i : Int, 0 ≤ i → i < 2 → P i := fun i a b => by
  have : i = 0 ∨ i = 1 := by omega
  rcases this with rfl | rfl
  · exact h0
  · exact h1
theorem p0_ok : p0.Ok := ⟨by decide, by decide, rfl, by decide, by decide, by decide, by decide, two (by unfold Prob.each; decide) (by unfold Prob.each; decide)⟩
theorem y0_ok : Formed 2 y0 1 := ⟨by decide, by decide, two (by decide) (by decide)⟩
theorem y1_ok : Formed 2 y1 1 := ⟨by decide, by decide, two (by decide) (by decide)⟩
theorem chk_p0 : Chk p0 2 y0 1 = 0 := chk0 p0_ok y0_ok rfl (by decide)
theorem chk_p1 : Chk p0 2 y1 1 = 21 := chk21 p0_ok y1_ok rfl (by decide)
theorem bnd_p0 : BndOf p0 2 y0 1 = 4 := by unfold BndOf; rw [if_pos chk_p0]; decide
theorem bnd_ok {p : Prob} {n : Int} {y : Int → Int} {q : Int} (h : Chk p n y q = 0) : BndOf p n y q = Bnd p y q := by unfold BndOf; rw [if_pos h]
theorem bnd_no {p : Prob} {n : Int} {y : Int → Int} {q : Int} (h : Chk p n y q ≠ 0) : BndOf p n y q = 0 := by unfold BndOf; rw [if_neg h]

/-! Smaller demands -/
theorem R_le {T U : Int → Int} {s y : Int} (hs : 0 ≤ s) (h : ∀ c, 0 ≤ c → T c ≤ U c) {k m : Nat} (hk : k ≤ m) {c : Int} (hc : 0 ≤ c) : R T s y k c ≤ R U s y m c := by
  obtain ⟨n, h1, h2, h3⟩ := R_ex T s y k c hc
  have h4 : 0 ≤ (n : Int) * s := Int.mul_nonneg (by omega) hs
  have h5 := R_ge U s y m n c (by omega) h2
  have h6 := h (c - n * s) (by omega)
  omega
theorem tdiv_mono {a b q : Int} (h0 : 0 ≤ a) (h : a ≤ b) (hq : 1 ≤ q) : a.tdiv q ≤ b.tdiv q := by
  rw [Int.tdiv_eq_ediv_of_nonneg h0, Int.tdiv_eq_ediv_of_nonneg (by omega)]
  exact Int.ediv_le_ediv (by omega) h
theorem rem_facts {a b : Int} (ha : 0 ≤ a) (hb : 1 ≤ b) : 0 ≤ a.tmod b ∧ a.tmod b ≤ b - 1 := by
  rw [Int.tmod_eq_emod_of_nonneg ha]
  have h1 := Int.emod_nonneg a (show b ≠ 0 by omega)
  have h2 := Int.emod_lt_of_pos a (show 0 < b by omega)
  omega
/-- The problem with other demands. -/
def Prob.with (p : Prob) (f : Int → Int) : Prob := ⟨p.m, p.L, p.d, f, p.stock, p.kerf⟩
theorem less_ok {p : Prob} (hp : p.Ok) {f : Int → Int} (hf : ∀ k, 0 ≤ k → k < p.d → 0 ≤ f k ∧ f k ≤ p.D k) : (p.with f).Ok :=
  ⟨hp.m1, hp.m2, hp.d, hp.s1, hp.s2, hp.k1, hp.k2, fun i h0 h1 => by
    have h1' : i < p.m := h1
    have h2 := hp.all i h0 h1'
    unfold Prob.each at h2 ⊢
    have h3 := hf i h0 (by rw [hp.d]; exact h1')
    simp only [Prob.with]
    omega⟩
theorem less_tab {p : Prob} (hp : p.Ok) {f : Int → Int} (hf : ∀ k, 0 ≤ k → k < p.d → 0 ≤ f k ∧ f k ≤ p.D k) (y : Int → Int) : ∀ (j : Nat), (j : Int) ≤ p.m → ∀ c, 0 ≤ c → Tab (p.with f) y j c ≤ Tab p y j c
  | 0, _, c, _ => Int.le_refl _
  | j + 1, hj, c, hc => by
    have h2 := hp.all j (by omega) (by omega)
    unfold Prob.each at h2
    have h3 := hf j (by omega) (by rw [hp.d]; omega)
    have h4 := hp.k1
    exact R_le (show 0 ≤ p.L j + p.kerf by omega) (fun c hc => less_tab hp hf y j (by omega) c hc) (show (f j).toNat ≤ (p.D j).toNat by omega) hc
theorem less_tot {D f y : Int → Int} {m : Int} (h : ∀ k, 0 ≤ k → k < m → 0 ≤ f k ∧ f k ≤ D k ∧ 0 ≤ y k) : ∀ k : Nat, (k : Int) ≤ m → 0 ≤ Tot f y k ∧ Tot f y k ≤ Tot D y k
  | 0, _ => by simp [Tot]
  | k + 1, hk => by
    have h1 := less_tot h k (by omega)
    have h2 := h k (by omega) (by omega)
    have h3 : f k * y k ≤ D k * y k := Int.mul_le_mul_of_nonneg_right h2.2.1 h2.2.2
    have h4 : 0 ≤ f k * y k := Int.mul_nonneg h2.1 h2.2.2
    simp only [Tot]; omega
theorem less_law {p : Prob} {n : Int} {y : Int → Int} {q : Int} (h : Chk p n y q = 0) {f : Int → Int} (hf : ∀ k, 0 ≤ k → k < p.d → 0 ≤ f k ∧ f k ≤ p.D k) :
    Chk (p.with f) n y q = 0 ∧ BndOf (p.with f) n y q ≤ BndOf p n y q := by
  obtain ⟨hp, hfm, hn, hw⟩ := chk_ok h
  have h1 := less_ok hp hf
  have hm := hp.m1; have hs := hp.s1; have hk := hp.k1
  have h2 := less_tab hp hf y p.m.toNat (by omega) (p.stock + p.kerf) (by omega)
  have h3 : Chk (p.with f) n y q = 0 := chk0 h1 hfm hn (by unfold Worth at hw ⊢; simp only [Prob.with] at h2 ⊢; omega)
  refine ⟨h3, ?_⟩
  rw [bnd_ok h3, bnd_ok h]
  have h4 := less_tot (D := p.D) (f := f) (y := y) (m := p.m) (fun k h0 h1 => by
    have a := hf k h0 (by rw [hp.d]; exact h1)
    have b := hfm.2.2 k h0 (by omega)
    omega) p.m.toNat (by omega)
  have hq := hfm.1
  exact tdiv_mono (by simp only [Prob.with]; omega) (by simp only [Prob.with]; omega) hq
end Go.Proofs.Gw
