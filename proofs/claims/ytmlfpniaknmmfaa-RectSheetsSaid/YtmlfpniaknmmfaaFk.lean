/- The knapsack's table, plain: one kind of piece more at a time, one piece more at a time. No program in sight. -/
import Derived.Test.YtmlfpniaknmmfaaFp
namespace Go.Proofs.Gw
open Go Go.RowKit
set_option linter.unusedVariables false
set_option linter.unusedSimpArgs false

/-- The best worth of at most k pieces of size s and worth y, above a table T. -/
def R (T : Int → Int) (s y : Int) : Nat → Int → Int
  | 0, c => T c
  | k + 1, c => if ((k : Int) + 1) * s ≤ c then max (R T s y k c) (T (c - ((k : Int) + 1) * s) + ((k : Int) + 1) * y) else R T s y k c
theorem R_mono (T : Int → Int) (s y : Int) (k : Nat) (c : Int) : R T s y k c ≤ R T s y (k + 1) c := by
  simp only [R]; split <;> omega
theorem R_ge (T : Int → Int) (s y : Int) : ∀ (k n : Nat) (c : Int), n ≤ k → (n : Int) * s ≤ c → T (c - n * s) + n * y ≤ R T s y k c
  | 0, n, c, hn, _ => by
    obtain rfl : n = 0 := by omega
    simp [R]
  | k + 1, n, c, hn, hc => by
    by_cases h : n = k + 1
    · subst h
      have e : ((k + 1 : Nat) : Int) = (k : Int) + 1 := by omega
      rw [e] at hc ⊢
      simp only [R]; rw [if_pos hc]; omega
    · have := R_ge T s y k n c (by omega) hc
      have := R_mono T s y k c
      omega
theorem R_ex (T : Int → Int) (s y : Int) : ∀ (k : Nat) (c : Int), 0 ≤ c → ∃ n : Nat, n ≤ k ∧ (n : Int) * s ≤ c ∧ R T s y k c = T (c - n * s) + n * y
  | 0, c, hc => ⟨0, by omega, by simpa using hc, by simp [R]⟩
  | k + 1, c, hc => by
    obtain ⟨n, h1, h2, h3⟩ := R_ex T s y k c hc
    simp only [R]
    split
    · rename_i h
      rcases Int.le_total (R T s y k c) (T (c - ((k : Int) + 1) * s) + ((k : Int) + 1) * y) with hm | hm
      · refine ⟨k + 1, by omega, ?_, ?_⟩
        · have e : ((k + 1 : Nat) : Int) = (k : Int) + 1 := by omega
          rw [e]; exact h
        · have e : ((k + 1 : Nat) : Int) = (k : Int) + 1 := by omega
          rw [e, Int.max_eq_right hm]
      · exact ⟨n, by omega, h2, by rw [Int.max_eq_left hm]; exact h3⟩
    · exact ⟨n, by omega, h2, h3⟩
/-- One piece more by the table of one piece less. -/
theorem R_step (T : Int → Int) (s y : Int) (hs : 0 ≤ s) (k : Nat) (c : Int) (hc : 0 ≤ c) :
    R T s y (k + 1) c = if s ≤ c then max (R T s y k c) (R T s y k (c - s) + y) else R T s y k c := by
  have hks : 0 ≤ (k : Int) * s := Int.mul_nonneg (by omega) hs
  have e1 : ((k : Int) + 1) * s = k * s + s := by rw [Int.add_mul, Int.one_mul]
  split
  · rename_i h
    apply Int.le_antisymm
    · obtain ⟨n, h1, h2, h3⟩ := R_ex T s y (k + 1) c hc
      rw [h3]
      by_cases hn : n ≤ k
      · have := R_ge T s y k n c hn h2; omega
      · obtain rfl : n = k + 1 := by omega
        have e : ((k + 1 : Nat) : Int) = (k : Int) + 1 := by omega
        rw [e] at h2 ⊢
        have h4 := R_ge T s y k k (c - s) (Nat.le_refl _) (by omega)
        have e2 : c - s - k * s = c - ((k : Int) + 1) * s := by omega
        have e3 : ((k : Int) + 1) * y = k * y + y := by rw [Int.add_mul, Int.one_mul]
        rw [e2] at h4
        omega
    · have h4 := R_mono T s y k c
      obtain ⟨n, h1, h2, h3⟩ := R_ex T s y k (c - s) (by omega)
      have e4 : ((n + 1 : Nat) : Int) * s = n * s + s := by rw [Int.natCast_add, Int.add_mul]; simp
      have e5 : ((n + 1 : Nat) : Int) * y = n * y + y := by rw [Int.natCast_add, Int.add_mul]; simp
      have h5 := R_ge T s y (k + 1) (n + 1) c (by omega) (by omega)
      rw [e4, e5] at h5
      have e6 : c - (n * s + s) = c - s - n * s := by omega
      rw [e6] at h5
      omega
  · rename_i h
    simp only [R]; rw [if_neg (by omega)]
theorem R_congr {T U : Int → Int} {s y : Int} (hs : 0 ≤ s) {m : Int} (h : ∀ c, 0 ≤ c → c ≤ m → T c = U c) : ∀ (k : Nat) (c : Int), 0 ≤ c → c ≤ m → R T s y k c = R U s y k c
  | 0, c, h0, h1 => h c h0 h1
  | k + 1, c, h0, h1 => by
    simp only [R]
    have hks : 0 ≤ ((k : Int) + 1) * s := Int.mul_nonneg (by omega) hs
    rw [R_congr hs h k c h0 h1]
    split
    · rw [h _ (by omega) (by omega)]
    · rfl
/-- Beyond what there is room for a piece more changes nothing. -/
theorem R_stop (T : Int → Int) (s y : Int) (c : Int) (k : Nat) (h : c < ((k : Int) + 1) * s) (hs : 0 ≤ s) : ∀ n, k ≤ n → R T s y n c = R T s y k c := by
  intro n hn
  induction n with
  | zero => obtain rfl : k = 0 := by omega
            rfl
  | succ n ih =>
    by_cases e : k = n + 1
    · rw [e]
    · rw [← ih (by omega)]
      simp only [R]
      have : ((k : Int) + 1) * s ≤ ((n : Int) + 1) * s := Int.mul_le_mul_of_nonneg_right (by omega) hs
      rw [if_neg (by omega)]
theorem R_bound {T : Int → Int} {s y M : Int} (hs : 1 ≤ s) (hy : 0 ≤ y) (hM : y ≤ M) (hT : ∀ c, 0 ≤ c → 0 ≤ T c ∧ T c ≤ c * M) (k : Nat) (c : Int) (hc : 0 ≤ c) : 0 ≤ R T s y k c ∧ R T s y k c ≤ c * M := by
  obtain ⟨n, h1, h2, h3⟩ := R_ex T s y k c hc
  rw [h3]
  have h4 := hT (c - n * s) (by omega)
  have h5 : 0 ≤ (n : Int) * y := Int.mul_nonneg (by omega) hy
  have h6 : (n : Int) * y ≤ n * s * M := by
    have a1 : (n : Int) * y ≤ n * M := Int.mul_le_mul_of_nonneg_left hM (by omega)
    have a2 : (n : Int) * 1 ≤ n * s := Int.mul_le_mul_of_nonneg_left hs (by omega)
    have a3 : (n : Int) * 1 * M ≤ n * s * M := Int.mul_le_mul_of_nonneg_right a2 (by omega)
    rw [Int.mul_one] at a3
    omega
  have h7 : (c - n * s) * M = c * M - n * s * M := Int.sub_mul _ _ _
  omega
/-- The table of the first j kinds. -/
def Tab (p : Prob) (y : Int → Int) : Nat → Int → Int
  | 0, _ => 0
  | j + 1, c => R (Tab p y j) (p.L j + p.kerf) (y j) (p.D j).toNat c
theorem Tab_bound {p : Prob} (hp : p.Ok) {y : Int → Int} {M : Int} (hM : 0 ≤ M) (hy : ∀ k, 0 ≤ k → k < p.m → 0 ≤ y k ∧ y k ≤ M) : ∀ (j : Nat), (j : Int) ≤ p.m → ∀ c, 0 ≤ c → 0 ≤ Tab p y j c ∧ Tab p y j c ≤ c * M
  | 0, _, c, hc => ⟨Int.le_refl _, Int.mul_nonneg hc hM⟩
  | j + 1, hj, c, hc => by
    have h1 := hp.all j (by omega) (by omega)
    unfold Prob.each at h1
    have h2 := hp.k1
    have h3 := hy j (by omega) (by omega)
    exact R_bound (by omega) h3.1 h3.2 (fun c hc => Tab_bound hp hM hy j (by omega) c hc) _ c hc
/-- The greatest worth of a proper pattern. -/
def Worth (p : Prob) (y : Int → Int) : Int := Tab p y p.m.toNat (p.stock + p.kerf)

/-! What the walks ask -/
theorem upd_self {α : Type} (f : Int → α) (k : Int) (x : α) : upd f k x k = x := by simp [upd]
theorem upd_ne {α : Type} (f : Int → α) {k j : Int} (x : α) (h : j ≠ k) : upd f k x j = f j := by simp [upd, h]
theorem quo_facts {a b : Int} (ha : 0 ≤ a) (hb : 1 ≤ b) : 0 ≤ a.tdiv b ∧ a.tdiv b ≤ a ∧ a < (a.tdiv b + 1) * b ∧ a.tdiv b * b ≤ a := by
  rw [Int.tdiv_eq_ediv_of_nonneg ha]
  have h1 := Int.ediv_nonneg ha (show 0 ≤ b by omega)
  have h2 := Int.mul_ediv_add_emod a b
  have h3 := Int.emod_nonneg a (show b ≠ 0 by omega)
  have h4 := Int.emod_lt_of_pos a (show 0 < b by omega)
  have h5 : (a / b + 1) * b = b * (a / b) + b := by rw [Int.add_mul, Int.one_mul, Int.mul_comm]
  have h6 : a / b * b = b * (a / b) := Int.mul_comm _ _
  have h7 : a / b ≤ a := Int.ediv_le_self _ ha
  refine ⟨h1, h7, ?_, ?_⟩ <;> omega
/-- The certificate's prices. -/
def Priced (p : Prob) (y : Int → Int) : Prop := ∀ k, 0 ≤ k → k < p.m → 0 ≤ y k ∧ y k ≤ 1073741824
theorem R_tab {p : Prob} (hp : p.Ok) {y : Int → Int} (hy : Priced p y) {i : Int} (h0 : 0 ≤ i) (h1 : i < p.m) (k : Nat) {c : Int} (hc : 0 ≤ c) : 0 ≤ R (Tab p y i.toNat) (p.L i + p.kerf) (y i) k c ∧ R (Tab p y i.toNat) (p.L i + p.kerf) (y i) k c ≤ c * 1073741824 := by
  have h2 := hp.all i h0 h1
  unfold Prob.each at h2
  have h3 := hp.k1
  have h4 := hy i h0 h1
  exact R_bound (by omega) h4.1 h4.2 (fun c hc => Tab_bound hp (by omega) hy _ (by omega) c hc) k c hc
theorem Tab_next {p : Prob} (hp : p.Ok) (y : Int → Int) {i k : Int} (h0 : 0 ≤ i) (h1 : i < p.m) (hk0 : 0 ≤ k) (hk : k ≤ p.D i) (hk2 : min (p.D i) ((p.stock + p.kerf).tdiv (p.L i + p.kerf)) ≤ k) {j : Int} (_hj : 0 ≤ j) (hj1 : j ≤ p.stock + p.kerf) :
    R (Tab p y i.toNat) (p.L i + p.kerf) (y i) k.toNat j = Tab p y (i + 1).toNat j := by
  have h2 := hp.all i h0 h1
  unfold Prob.each at h2
  have h3 := hp.k1
  have h4 := hp.s1
  have e : (i + 1).toNat = i.toNat + 1 := by omega
  have e2 : ((i.toNat : Nat) : Int) = i := by omega
  rw [e]
  simp only [Tab, e2]
  by_cases hd : p.D i ≤ k
  · obtain rfl : k = p.D i := by omega
    rfl
  · have h5 := quo_facts (a := p.stock + p.kerf) (b := p.L i + p.kerf) (by omega) (by omega)
    have h6 : (p.stock + p.kerf).tdiv (p.L i + p.kerf) ≤ k := by omega
    have h7 : ((p.stock + p.kerf).tdiv (p.L i + p.kerf) + 1) * (p.L i + p.kerf) ≤ (k + 1) * (p.L i + p.kerf) := Int.mul_le_mul_of_nonneg_right (by omega) (by omega)
    have e3 : ((k.toNat : Nat) : Int) = k := by omega
    exact (R_stop _ _ _ j k.toNat (by rw [e3]; omega) (by omega) _ (by omega)).symm
/-- One round of the innermost loop, from the end of the table. -/
theorem R_round {p : Prob} (hp : p.Ok) (y : Int → Int) {i c : Int} (h0 : 0 ≤ i) (h1 : i < p.m) {k : Nat} {f : Int → Int} (hc : p.L i + p.kerf ≤ c)
    (hb : ∀ j, 0 ≤ j → j ≤ c → f j = R (Tab p y i.toNat) (p.L i + p.kerf) (y i) k j) {x : Int} (hx : x = max (f c) (f (c - p.L i - p.kerf) + y i)) : x = R (Tab p y i.toNat) (p.L i + p.kerf) (y i) (k + 1) c := by
  have h2 := hp.all i h0 h1
  unfold Prob.each at h2
  have h3 := hp.k1
  rw [R_step _ _ _ (by omega) k c (by omega), if_pos hc, hx, hb c (by omega) (by omega), hb (c - p.L i - p.kerf) (by omega) (by omega)]
  rw [show c - p.L i - p.kerf = c - (p.L i + p.kerf) by omega]
theorem R_low {p : Prob} (hp : p.Ok) (y : Int → Int) {i j : Int} (h0 : 0 ≤ i) (h1 : i < p.m) (k : Nat) (hj0 : 0 ≤ j) (hj : j < p.L i + p.kerf) : R (Tab p y i.toNat) (p.L i + p.kerf) (y i) k j = R (Tab p y i.toNat) (p.L i + p.kerf) (y i) (k + 1) j := by
  have h2 := hp.all i h0 h1
  unfold Prob.each at h2
  have h3 := hp.k1
  rw [R_step _ _ _ (by omega) k j hj0, if_neg (by omega)]
theorem cat_self {α : Type} (g : Int → α) (s : Nat) : cat ((0 : Int) * s) g g = g := by
  funext j; simp only [cat, Int.zero_mul]; split <;> simp
/-- The reference goes by whole numbers of pieces. -/
theorem R_at (T : Int → Int) (s y : Int) {n c : Int} (h : 1 ≤ n) (hc : n * s ≤ c) : R T s y n.toNat c = max (R T s y (n - 1).toNat c) (T (c - n * s) + n * y) := by
  obtain ⟨k, rfl⟩ : ∃ k : Nat, n = (k : Int) + 1 := ⟨(n - 1).toNat, by omega⟩
  have e1 : ((k : Int) + 1).toNat = k + 1 := by omega
  have e2 : ((k : Int) + 1 - 1).toNat = k := by omega
  rw [e1, e2]; simp only [R]; rw [if_pos hc]
theorem R_not (T : Int → Int) (s y : Int) {n c : Int} (h : 1 ≤ n) (hc : c < n * s) : R T s y n.toNat c = R T s y (n - 1).toNat c := by
  obtain ⟨k, rfl⟩ : ∃ k : Nat, n = (k : Int) + 1 := ⟨(n - 1).toNat, by omega⟩
  have e1 : ((k : Int) + 1).toNat = k + 1 := by omega
  have e2 : ((k : Int) + 1 - 1).toNat = k := by omega
  rw [e1, e2]; simp only [R]; rw [if_neg (by omega)]
theorem Tab_next2 {p : Prob} (hp : p.Ok) (y : Int → Int) {i n : Int} (h0 : 0 ≤ i) (h1 : i < p.m) (hn0 : 1 ≤ n) (hn : n - 1 ≤ p.D i) (h : p.D i < n ∨ p.stock + p.kerf < n * (p.L i + p.kerf)) {j : Int} (_hj : 0 ≤ j) (hj1 : j ≤ p.stock + p.kerf) :
    R (Tab p y i.toNat) (p.L i + p.kerf) (y i) (n - 1).toNat j = Tab p y (i + 1).toNat j := by
  have h2 := hp.all i h0 h1
  unfold Prob.each at h2
  have h3 := hp.k1
  have e : (i + 1).toNat = i.toNat + 1 := by omega
  have e2 : ((i.toNat : Nat) : Int) = i := by omega
  rw [e]
  simp only [Tab, e2]
  by_cases hd : p.D i < n
  · obtain rfl : n = p.D i + 1 := by omega
    rw [show p.D i + 1 - 1 = p.D i by omega]
  · have h5 : p.stock + p.kerf < n * (p.L i + p.kerf) := h.resolve_left hd
    have e3 : (((n - 1).toNat : Nat) : Int) + 1 = n := by omega
    exact (R_stop _ _ _ j (n - 1).toNat (by rw [e3]; omega) (by omega) _ (by omega)).symm
theorem size_mul {p : Prob} (hp : p.Ok) {i n : Int} (h0 : 0 ≤ i) (h1 : i < p.m) (hn0 : 0 ≤ n) (hn : n ≤ 1000) : n ≤ n * (p.L i + p.kerf) ∧ n * (p.L i + p.kerf) ≤ 2100000 := by
  have h2 := hp.all i h0 h1
  unfold Prob.each at h2
  have h3 := hp.k1; have h4 := hp.k2; have h5 := hp.s2
  have a1 : n * 1 ≤ n * (p.L i + p.kerf) := Int.mul_le_mul_of_nonneg_left (by omega) hn0
  have a2 : n * (p.L i + p.kerf) ≤ 1000 * 2100 := Int.mul_le_mul hn (by omega) (by omega) (by omega)
  omega
theorem price_mul {p : Prob} {y : Int → Int} (hy : Priced p y) {i n : Int} (h0 : 0 ≤ i) (h1 : i < p.m) (hn0 : 0 ≤ n) (hn : n ≤ 1000) : 0 ≤ n * y i ∧ n * y i ≤ 1073741824000 := by
  have h2 := hy i h0 h1
  have a1 : 0 ≤ n * y i := Int.mul_nonneg hn0 h2.1
  have a2 : n * y i ≤ 1000 * 1073741824 := Int.mul_le_mul hn h2.2 h2.1 (by omega)
  omega
end Go.Proofs.Gw
