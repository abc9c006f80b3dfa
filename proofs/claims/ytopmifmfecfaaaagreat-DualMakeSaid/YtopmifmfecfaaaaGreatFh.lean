/- The knapsack by a queue, plain: the best start among the last ones; the table from the last item on; the solution that is read off. -/
import Derived.Test.YtopmifmfecfaaaaGreatFd
import Derived.Test.YtopmifmfecfaaaaGreatFs
import Derived.Test.YtopmifmfecfaaaaGreatFr
namespace Go.Proofs.Gw
open Go Go.RowKit
set_option linter.unusedVariables false
set_option linter.unusedSimpArgs false

/-- The queue of the starts up to k - 1, for windows of the last M + 1. -/
structure DQ (A : Int → Int) (M k q : Int) (g : Int → Int) : Prop where
  q0 : 0 ≤ q
  rng : ∀ i, 0 ≤ i → i < q → max 0 (k - 1 - M) ≤ g i ∧ g i ≤ k - 1
  mon : ∀ i, 0 ≤ i → i + 1 < q → g i < g (i + 1) ∧ A (g (i + 1)) < A (g i)
  dom : ∀ j, max 0 (k - 1 - M) ≤ j → j ≤ k - 1 → ∃ i, 0 ≤ i ∧ i < q ∧ j ≤ g i ∧ A j ≤ A (g i)
/-- While the last ones are taken off, ahead of k. -/
structure DQp (A : Int → Int) (M k q : Int) (g : Int → Int) : Prop where
  q0 : 0 ≤ q
  rng : ∀ i, 0 ≤ i → i < q → max 0 (k - 1 - M) ≤ g i ∧ g i ≤ k - 1
  mon : ∀ i, 0 ≤ i → i + 1 < q → g i < g (i + 1) ∧ A (g (i + 1)) < A (g i)
  dom : ∀ j, max 0 (k - 1 - M) ≤ j → j ≤ k - 1 → (∃ i, 0 ≤ i ∧ i < q ∧ j ≤ g i ∧ A j ≤ A (g i)) ∨ A j ≤ A k
theorem DQ.start (A : Int → Int) (M : Int) (g : Int → Int) : DQ A M 0 0 g := ⟨by omega, fun i _ _ => by omega, fun i _ _ => by omega, fun j _ _ => by omega⟩
theorem DQ.p {A : Int → Int} {M k q : Int} {g : Int → Int} (h : DQ A M k q g) : DQp A M k q g := ⟨h.q0, h.rng, h.mon, fun j a b => .inl (h.dom j a b)⟩
theorem DQp.pop {A : Int → Int} {M k q : Int} {g : Int → Int} (h : DQp A M k q g) (hq : 0 < q) (ha : A (g (q - 1)) ≤ A k) : DQp A M k (q - 1) g :=
  ⟨by omega, fun i i0 i1 => h.rng i i0 (by omega), fun i i0 i1 => h.mon i i0 (by omega), fun j j0 j1 => by
    rcases h.dom j j0 j1 with ⟨i, i0, i1, h1, h2⟩ | h1
    · by_cases e : i = q - 1
      · subst e; exact .inr (by omega)
      · exact .inl ⟨i, i0, by omega, h1, h2⟩
    · exact .inr h1⟩
/-- k goes behind it. -/
structure DQa (A : Int → Int) (M k q : Int) (g : Int → Int) : Prop where
  q0 : 1 ≤ q
  rng : ∀ i, 0 ≤ i → i < q → max 0 (k - 1 - M) ≤ g i ∧ g i ≤ k
  mon : ∀ i, 0 ≤ i → i + 1 < q → g i < g (i + 1) ∧ A (g (i + 1)) < A (g i)
  dom : ∀ j, max 0 (k - 1 - M) ≤ j → j ≤ k → ∃ i, 0 ≤ i ∧ i < q ∧ j ≤ g i ∧ A j ≤ A (g i)
  last : g (q - 1) = k
theorem DQp.push {A : Int → Int} {M k q : Int} {g : Int → Int} (h : DQp A M k q g) (k0 : 0 ≤ k) (hM : 0 ≤ M) (hq : q ≤ 0 ∨ A k < A (g (q - 1))) : DQa A M k (q + 1) (snoc g q k) := by
  have hq0 := h.q0
  refine ⟨by omega, fun i i0 i1 => ?_, fun i i0 i1 => ?_, fun j j0 j1 => ?_, ?_⟩
  · by_cases e : i < q
    · rw [snoc_lt e]; have := h.rng i i0 e; omega
    · rw [snoc_at e]; omega
  · rw [snoc_lt (show i < q by omega)]
    by_cases e : i + 1 < q
    · rw [snoc_lt e]; exact h.mon i i0 e
    · rw [snoc_at e]
      obtain rfl : i = q - 1 := by omega
      have := h.rng (q - 1) i0 (by omega)
      omega
  · by_cases e : j = k
    · subst e; exact ⟨q, by omega, by omega, by rw [snoc_at (by omega)]; omega, by rw [snoc_at (by omega)]; omega⟩
    · rcases h.dom j j0 (by omega) with ⟨i, i0, i1, h1, h2⟩ | h1
      · exact ⟨i, i0, by omega, by rw [snoc_lt i1]; exact h1, by rw [snoc_lt i1]; exact h2⟩
      · exact ⟨q, by omega, by omega, by rw [snoc_at (by omega)]; omega, by rw [snoc_at (by omega)]; exact h1⟩
  · rw [snoc_at (by omega)]
theorem DQa.up {A : Int → Int} {M k q : Int} {g : Int → Int} (h : DQa A M k q g) : ∀ i : Nat, (i : Int) < q → g 0 + i ≤ g i ∧ A (g i) ≤ A (g 0)
  | 0, _ => ⟨by simp, Int.le_refl _⟩
  | i + 1, hi => by
    have h1 := h.up i (by omega)
    have h2 := h.mon i (by omega) (by omega)
    rw [show ((i + 1 : Nat) : Int) = (i : Int) + 1 by omega]
    omega
theorem DQa.keep {A : Int → Int} {M k q : Int} {g : Int → Int} (h : DQa A M k q g) (k0 : 0 ≤ k) (hg : ¬ g 0 < k - M) : DQ A M (k + 1) q g := by
  have hq := h.q0
  refine ⟨by omega, fun i i0 i1 => ?_, h.mon, fun j j0 j1 => h.dom j (by omega) (by omega)⟩
  have h1 := h.up i.toNat (by omega)
  rw [Int.toNat_of_nonneg i0] at h1
  have := h.rng i i0 i1; have := h.rng 0 (by omega) (by omega)
  omega
theorem DQa.more {A : Int → Int} {M k q : Int} {g : Int → Int} (h : DQa A M k q g) (hM : 0 ≤ M) (hg : g 0 < k - M) : 1 < q := by
  have := h.q0; have hl := h.last
  by_cases e : q = 1
  · subst e; rw [show (1 : Int) - 1 = 0 by omega] at hl; omega
  · omega
theorem DQa.drop {A : Int → Int} {M k q p : Int} {g : Int → Int} (h : DQa A M k q g) (k0 : 0 ≤ k) (hM : 0 ≤ M) (hg : g 0 < k - M) (e : q - 1 = p := by omega) : DQ A M (k + 1) p (fun i => g (i + 1)) := by
  subst e
  have hq := h.q0
  refine ⟨by omega, fun i i0 i1 => ?_, fun i i0 i1 => h.mon (i + 1) (by omega) (by omega), fun j j0 j1 => ?_⟩
  · have h1 := h.up (i + 1).toNat (by omega)
    rw [Int.toNat_of_nonneg (by omega)] at h1
    have h2 := h.rng (i + 1) (by omega) (by omega); have h3 := h.rng 0 (by omega) (by omega)
    omega
  · obtain ⟨i, i0, i1, h1, h2⟩ := h.dom j (by omega) (by omega)
    by_cases e : i = 0
    · subst e; omega
    · exact ⟨i - 1, by omega, by omega, by rw [show i - 1 + 1 = i by omega]; exact h1, by rw [show i - 1 + 1 = i by omega]; exact h2⟩
/-- Behind the round of k, the first one is the best start. -/
theorem DQ.best {A : Int → Int} {M k q : Int} {g : Int → Int} (h : DQ A M (k + 1) q g) (k0 : 0 ≤ k) (hM : 0 ≤ M) : 0 < q ∧ max 0 (k - M) ≤ g 0 ∧ g 0 ≤ k ∧ ∀ j, max 0 (k - M) ≤ j → j ≤ k → A j ≤ A (g 0) := by
  obtain ⟨i, i0, i1, _, _⟩ := h.dom k (by omega) (by omega)
  have hr := h.rng 0 (by omega) (by omega)
  have up : ∀ i : Nat, (i : Int) < q → A (g i) ≤ A (g 0) := fun i => by
    induction i with
    | zero => intro _; exact Int.le_refl _
    | succ i ih =>
      intro hi
      have h1 := ih (by omega)
      have h2 := h.mon i (by omega) (by omega)
      rw [show ((i + 1 : Nat) : Int) = (i : Int) + 1 by omega]
      omega
  refine ⟨by omega, by omega, by omega, fun j j0 j1 => ?_⟩
  obtain ⟨i, i0, i1, h1, h2⟩ := h.dom j (by omega) (by omega)
  have := up i.toNat (by omega)
  rw [Int.toNat_of_nonneg i0] at this
  omega
theorem DQ.len {A : Int → Int} {M k q : Int} {g : Int → Int} (h : DQ A M k q g) (k0 : 0 ≤ k) : q ≤ k := by
  have up : ∀ i : Nat, (i : Int) < q → g 0 + i ≤ g i := fun i => by
    induction i with
    | zero => intro _; simp
    | succ i ih =>
      intro hi
      have h1 := ih (by omega)
      have h2 := h.mon i (by omega) (by omega)
      rw [show ((i + 1 : Nat) : Int) = (i : Int) + 1 by omega]
      omega
  rcases Int.lt_or_le 0 q with hq | hq
  · have h1 := up (q - 1).toNat (by omega)
    rw [Int.toNat_of_nonneg (by omega)] at h1
    have h2 := h.rng 0 (by omega) hq; have h3 := h.rng (q - 1) (by omega) (by omega)
    omega
  · omega
/-- The best of at most M more of an item, by the best start. -/
theorem R_start {T : Int → Int} {s y M r k b : Int} (hs : 1 ≤ s) (hM : 0 ≤ M) (r0 : 0 ≤ r) (r1 : r < s) (k0 : 0 ≤ k) (b0 : max 0 (k - M) ≤ b) (b1 : b ≤ k) (hb : ∀ j, max 0 (k - M) ≤ j → j ≤ k → T (r + j * s) - j * y ≤ T (r + b * s) - b * y) :
    R T s y M.toNat (r + k * s) = T (r + b * s) - b * y + k * y := by
  have hks : 0 ≤ k * s := Int.mul_nonneg k0 (by omega)
  apply Int.le_antisymm
  · obtain ⟨n, h1, h2, h3⟩ := R_ex T s y M.toNat (r + k * s) (by omega)
    have hnk : (n : Int) ≤ k := by
      rcases Int.lt_or_le k n with h | h
      · have := Int.mul_le_mul_of_nonneg_right (show k + 1 ≤ (n : Int) by omega) (show 0 ≤ s by omega)
        rw [Int.add_mul] at this; omega
      · exact h
    have h4 := hb (k - n) (by omega) (by omega)
    have e1 : r + (k - n) * s = r + k * s - n * s := by rw [Int.sub_mul]; omega
    rw [e1, Int.sub_mul] at h4
    rw [h3]; omega
  · have h1 := R_ge T s y M.toNat (k - b).toNat (r + k * s) (by omega) (by
      have := Int.mul_le_mul_of_nonneg_right (show (((k - b).toNat : Nat) : Int) ≤ k by omega) (show 0 ≤ s by omega); omega)
    rw [Int.toNat_of_nonneg (by omega), Int.sub_mul, Int.sub_mul] at h1
    have e1 : r + k * s - (k * s - b * s) = r + b * s := by omega
    rw [e1] at h1; omega
/-- What is filled in: the capacities with a smaller rest, and the first k ones with the rest r. -/
def LY (T : Int → Int) (s y m n r k : Int) (g : Int → Int) : Prop := ∀ c, 0 ≤ c → c < n → (c % s < r ∨ (c % s = r ∧ c < r + k * s)) → g c = R T s y m.toNat c
theorem ks_rng {k s : Int} (k0 : 0 ≤ k) (hs : 1 ≤ s) : k ≤ k * s := by
  have := Int.mul_le_mul_of_nonneg_left hs k0; omega
theorem js_in {r k j s n : Int} (hs : 1 ≤ s) (r0 : 0 ≤ r) (j0 : 0 ≤ j) (jk : j ≤ k) (h : r + k * s < n) : 0 ≤ j * s ∧ j * s ≤ k * s ∧ r + j * s < n := by
  have h1 := Int.mul_nonneg j0 (show 0 ≤ s by omega)
  have h2 := Int.mul_le_mul_of_nonneg_right jk (show 0 ≤ s by omega)
  omega
theorem jy_rng {j y : Int} (j0 : 0 ≤ j) (j1 : j ≤ 4001) (y0 : 0 ≤ y) (y1 : y ≤ 1073741824) : 0 ≤ j * y ∧ j * y ≤ 4296041037824 := by
  have h1 := Int.mul_nonneg j0 y0
  have h2 := Int.mul_le_mul j1 y1 y0 (by omega)
  omega
theorem LY.start (T : Int → Int) {s y m n r : Int} {g : Int → Int} (h : ∀ c, 0 ≤ c → c < n → c % s < r → g c = R T s y m.toNat c) : LY T s y m n r 0 g := fun c c0 c1 hc => by
  rcases hc with hc | ⟨_, hc⟩
  · exact h c c0 c1 hc
  · by_cases hs : c % s < r
    · exact h c c0 c1 hs
    · exfalso
      rename_i hr
      have : c % s ≤ c := by
        by_cases hs0 : 0 < s
        · rcases Int.lt_or_le c s with h1 | h1
          · rw [Int.emod_eq_of_lt c0 h1]; omega
          · have := Int.emod_lt_of_pos c hs0; omega
        · by_cases e : s = 0
          · subst e; simp
          · have h1 := Int.emod_lt_of_pos c (show 0 < -s by omega)
            rw [Int.emod_neg] at h1
            have h2 := Int.emod_emod_of_dvd c (show (-s) ∣ s from ⟨-1, by omega⟩)
            rcases Int.lt_or_le c (-s) with h3 | h3
            · have := Int.emod_eq_of_lt c0 h3; rw [Int.emod_neg] at this; omega
            · omega
      omega
theorem LY.step {T : Int → Int} {s y m n r k v : Int} {g : Int → Int} (h : LY T s y m n r k g) (hs : 1 ≤ s) (r0 : 0 ≤ r) (r1 : r < s) (k0 : 0 ≤ k) (hv : R T s y m.toNat (r + k * s) = v) : LY T s y m n r (k + 1) (upd g (r + k * s) v) := fun c c0 c1 hc => by
  by_cases e : c = r + k * s
  · subst e; rw [upd_self, hv]
  · rw [upd_ne _ _ e]
    refine h c c0 c1 ?_
    rcases hc with hc | ⟨hc, hc2⟩
    · exact .inl hc
    · refine .inr ⟨hc, ?_⟩
      have h1 := Int.mul_ediv_add_emod c s
      rw [hc] at h1
      rcases Int.lt_trichotomy (c / s) k with h2 | h2 | h2
      · have := Int.mul_le_mul_of_nonneg_left (show c / s + 1 ≤ k by omega) (show 0 ≤ s by omega)
        rw [Int.mul_add, Int.mul_comm s k] at this; omega
      · rw [h2, Int.mul_comm] at h1; omega
      · have := Int.mul_le_mul_of_nonneg_left (show k + 1 ≤ c / s by omega) (show 0 ≤ s by omega)
        rw [Int.mul_add, Int.mul_comm s k] at this
        rw [Int.add_mul] at hc2; omega
theorem LY.fin {T : Int → Int} {s y m n r k : Int} {g : Int → Int} (h : LY T s y m n r k g) (hk : ¬ r + k * s < n) : ∀ c, 0 ≤ c → c < n → c % s < r + 1 → g c = R T s y m.toNat c := fun c c0 c1 hc => h c c0 c1 (by omega)
/-! The table from the last item on -/
structure Its where
  n : Int
  S : Int → Int
  V : Int → Int
  M : Int → Int
def eachI (s v m : Int) : Prop := 1 ≤ s ∧ s ≤ 4000 ∧ 0 ≤ v ∧ v ≤ 1073741824 ∧ 0 ≤ m ∧ m ≤ 1000
def Its.each (t : Its) (i : Int) : Prop := eachI (t.S i) (t.V i) (t.M i)
structure Its.Ok (t : Its) (cap : Int) : Prop where
  n : t.n ≤ 20
  c0 : 0 ≤ cap
  c1 : cap ≤ 4000
  all : ∀ i, 0 ≤ i → i < t.n → t.each i
/-- The best values with the last k items. -/
def KT (t : Its) : Nat → Int → Int
  | 0 => fun _ => 0
  | k + 1 => R (KT t k) (t.S (t.n - 1 - k)) (t.V (t.n - 1 - k)) (t.M (t.n - 1 - k)).toNat
/-- .. with the items from i on. -/
def KI (t : Its) (i : Int) : Int → Int := KT t (t.n - i).toNat
theorem KI_end (t : Its) : KI t t.n = fun _ => 0 := by unfold KI; rw [show (t.n - t.n).toNat = 0 by omega]; rfl
theorem KI_step (t : Its) {i : Int} (i0 : 0 ≤ i) (i1 : i < t.n) : KI t i = R (KI t (i + 1)) (t.S i) (t.V i) (t.M i).toNat := by
  unfold KI
  rw [show (t.n - i).toNat = (t.n - (i + 1)).toNat + 1 by omega]
  show R _ _ _ _ = _
  rw [show t.n - 1 - (((t.n - (i + 1)).toNat : Nat) : Int) = i by omega]
theorem KT_bound {t : Its} {cap : Int} (h : t.Ok cap) : ∀ k : Nat, (k : Int) ≤ t.n → ∀ c, 0 ≤ c → 0 ≤ KT t k c ∧ KT t k c ≤ c * 1073741824
  | 0, _, c, hc => ⟨Int.le_refl _, by show 0 ≤ _; omega⟩
  | k + 1, hk, c, hc => by
    have he := h.all (t.n - 1 - k) (by omega) (by omega)
    unfold Its.each eachI at he
    exact R_bound he.1 he.2.2.1 he.2.2.2.1 (fun c c0 => KT_bound h k (by omega) c c0) _ c hc
theorem KI_bound {t : Its} {cap : Int} (h : t.Ok cap) {i : Int} (i0 : 0 ≤ i) (i1 : i ≤ t.n) {c : Int} (c0 : 0 ≤ c) : 0 ≤ KI t i c ∧ KI t i c ≤ c * 1073741824 := KT_bound h _ (by omega) c c0
/-- What the first i numbers of a solution take. -/
def KU (t : Its) (x : Int → Int) (i : Nat) : Int := sumTo (fun k => x k * t.S k) i
def KW (t : Its) (x : Int → Int) (i : Nat) : Int := sumTo (fun k => x k * t.V k) i
/-- The solution: at each item the most of it that still leads to the best value. -/
def KX (t : Its) (cap : Int) (x : Int → Int) (n : Int) : Prop := ∀ i, 0 ≤ i → i < n → 0 ≤ x i ∧ x i ≤ t.M i ∧ x i * t.S i ≤ cap - KU t x i.toNat ∧ KI t (i + 1) (cap - KU t x i.toNat - x i * t.S i) + x i * t.V i = KI t i (cap - KU t x i.toNat) ∧
  ∀ j, x i < j → j ≤ t.M i → j * t.S i ≤ cap - KU t x i.toNat → KI t (i + 1) (cap - KU t x i.toNat - j * t.S i) + j * t.V i ≠ KI t i (cap - KU t x i.toNat)
theorem KU_next (t : Its) (x : Int → Int) {i : Int} (h : 0 ≤ i) : KU t x (i + 1).toNat = KU t x i.toNat + x i * t.S i := sumTo_next _ h
theorem KW_next (t : Its) (x : Int → Int) {i : Int} (h : 0 ≤ i) : KW t x (i + 1).toNat = KW t x i.toNat + x i * t.V i := sumTo_next _ h
theorem KU_congr (t : Its) {x z : Int → Int} {n : Nat} (h : ∀ i, 0 ≤ i → i < (n : Int) → x i = z i) : KU t x n = KU t z n := sumTo_congr fun i i0 i1 => by rw [h i i0 i1]
theorem KX.snoc {t : Its} {cap : Int} {x : Int → Int} {i n : Int} (h : KX t cap x i) (i0 : 0 ≤ i) (n0 : 0 ≤ n) (n1 : n ≤ t.M i) (n2 : n * t.S i ≤ cap - KU t x i.toNat) (he : KI t (i + 1) (cap - KU t x i.toNat - n * t.S i) + n * t.V i = KI t i (cap - KU t x i.toNat))
    (ha : ∀ j, n < j → j ≤ t.M i → j * t.S i ≤ cap - KU t x i.toNat → KI t (i + 1) (cap - KU t x i.toNat - j * t.S i) + j * t.V i ≠ KI t i (cap - KU t x i.toNat)) : KX t cap (snoc x i n) (i + 1) := fun k k0 k1 => by
  have hu : KU t (Gw.snoc x i n) k.toNat = KU t x k.toNat := KU_congr t fun q q0 q1 => snoc_lt (by omega)
  rw [hu]
  by_cases e : k < i
  · rw [snoc_lt e]; exact h k k0 e
  · obtain rfl : k = i := by omega
    rw [snoc_at (by omega)]; exact ⟨n0, n1, n2, he, ha⟩
theorem KU_snoc (t : Its) (x : Int → Int) {i : Int} (n : Int) (i0 : 0 ≤ i) : KU t (snoc x i n) (i + 1).toNat = KU t x i.toNat + n * t.S i := by
  rw [KU_next t _ i0, snoc_at (by omega)]
  congr 1
  exact KU_congr t fun q q0 q1 => snoc_lt (by omega)
/-- Some number leads to the best value. -/
theorem KI_ex {t : Its} {cap : Int} (h : t.Ok cap) {i c : Int} (i0 : 0 ≤ i) (i1 : i < t.n) (c0 : 0 ≤ c) : ∃ j, 0 ≤ j ∧ j ≤ t.M i ∧ j * t.S i ≤ c ∧ KI t (i + 1) (c - j * t.S i) + j * t.V i = KI t i c := by
  have he := h.all i i0 i1
  unfold Its.each eachI at he
  obtain ⟨j, h1, h2, h3⟩ := R_ex (KI t (i + 1)) (t.S i) (t.V i) (t.M i).toNat c c0
  exact ⟨j, by omega, by omega, h2, by rw [KI_step t i0 i1, h3]⟩
theorem KX.same {t : Its} {cap : Int} {x z : Int → Int} : ∀ {n : Nat}, KX t cap x n → KX t cap z n → ∀ i, 0 ≤ i → i < (n : Int) → x i = z i
  | 0, _, _, i, _, _ => by omega
  | n + 1, hx, hz, i, i0, i1 => by
    have ih := KX.same (n := n) (fun i a b => hx i a (by omega)) (fun i a b => hz i a (by omega))
    by_cases e : i = n
    · have hu : KU t x i.toNat = KU t z i.toNat := KU_congr t fun k k0 k1 => ih k k0 (by omega)
      obtain ⟨a1, a2, a3, a4, a5⟩ := hx i i0 i1
      obtain ⟨b1, b2, b3, b4, b5⟩ := hz i i0 i1
      rw [hu] at a3 a4 a5
      rcases Int.lt_trichotomy (x i) (z i) with h | h | h
      · exact absurd b4 (a5 _ h b2 b3)
      · exact h
      · exact absurd a4 (b5 _ h a2 a3)
    · exact ih i i0 (by omega)
theorem KX.sum {t : Its} {cap : Int} (hc : 0 ≤ cap) {x : Int → Int} : ∀ {n : Nat}, KX t cap x n → (n : Int) ≤ t.n → KU t x n ≤ cap ∧ KW t x n + KI t n (cap - KU t x n) = KI t 0 cap
  | 0, _, _ => by simp [KU, KW, sumTo]; exact hc
  | n + 1, h, hn => by
    obtain ⟨a1, a2⟩ := KX.sum hc (n := n) (fun i x y => h i x (by omega)) (by omega)
    obtain ⟨b1, b2, b3, b4, _⟩ := h n (by omega) (by omega)
    have e1 := KU_next t x (i := n) (by omega)
    have e2 := KW_next t x (i := n) (by omega)
    rw [Int.toNat_natCast] at b3 b4
    rw [show ((n : Int) + 1).toNat = n + 1 by omega, Int.toNat_natCast] at e1 e2
    rw [e1, e2, show ((n + 1 : Nat) : Int) = (n : Int) + 1 by omega, show cap - (KU t x n + x n * t.S n) = cap - KU t x n - x n * t.S n by omega]
    omega
/-- The solution is worth the best value. -/
theorem KX.worth {t : Its} {cap : Int} (hc : 0 ≤ cap) (hn : 0 ≤ t.n) {x : Int → Int} (h : KX t cap x t.n) : KU t x t.n.toNat ≤ cap ∧ KW t x t.n.toNat = KI t 0 cap := by
  obtain ⟨h1, h2⟩ := KX.sum hc (n := t.n.toNat) (by rw [Int.toNat_of_nonneg hn]; exact h) (by omega)
  rw [Int.toNat_of_nonneg hn, KI_end] at h2
  exact ⟨h1, by simpa using h2⟩
theorem sumTo_first' (f : Int → Int) (n : Nat) : sumTo f (n + 1) = f 0 + sumTo (fun j => f (j + 1)) n := by
  induction n with
  | zero => simp [sumTo]
  | succ n ih =>
    simp only [sumTo] at *
    rw [ih, show ((n + 1 : Nat) : Int) = (n : Int) + 1 by omega]; omega
/-- And nothing is worth more. -/
theorem KI_max {t : Its} (hS : ∀ i, 0 ≤ i → i < t.n → 1 ≤ t.S i) {x : Int → Int} (hx : ∀ i, 0 ≤ i → i < t.n → 0 ≤ x i ∧ x i ≤ t.M i) : ∀ (k : Nat) (c : Int), (k : Int) ≤ t.n → sumTo (fun j => x (t.n - k + j) * t.S (t.n - k + j)) k ≤ c → sumTo (fun j => x (t.n - k + j) * t.V (t.n - k + j)) k ≤ KT t k c
  | 0, c, _, _ => by simp [sumTo, KT]
  | k + 1, c, hk, hc => by
    rw [sumTo_first'] at hc ⊢
    have e1 : ∀ f : Int → Int, sumTo (fun j => f (t.n - ((k + 1 : Nat) : Int) + (j + 1))) k = sumTo (fun j => f (t.n - k + j)) k := fun f => sumTo_congr fun j _ _ => by congr 1; omega
    rw [e1 (fun i => x i * t.S i), show t.n - ((k + 1 : Nat) : Int) + 0 = t.n - 1 - k by omega] at hc
    rw [e1 (fun i => x i * t.V i), show t.n - ((k + 1 : Nat) : Int) + 0 = t.n - 1 - k by omega]
    have h1 := hx (t.n - 1 - k) (by omega) (by omega)
    have hs : 0 ≤ sumTo (fun j => x (t.n - k + j) * t.S (t.n - k + j)) k := sumTo_nonneg fun j j0 j1 => Int.mul_nonneg (hx _ (by omega) (by omega)).1 (by have := hS (t.n - k + j) (by omega) (by omega); omega)
    have ih := KI_max hS hx k (c - x (t.n - 1 - k) * t.S (t.n - 1 - k)) (by omega) (by omega)
    have h2 := R_ge (KT t k) (t.S (t.n - 1 - k)) (t.V (t.n - 1 - k)) (t.M (t.n - 1 - k)).toNat (x (t.n - 1 - k)).toNat c (by omega) (by rw [Int.toNat_of_nonneg h1.1]; omega)
    rw [Int.toNat_of_nonneg h1.1] at h2
    show _ ≤ R _ _ _ _ _
    omega
theorem KI_top {t : Its} (hn : 0 ≤ t.n) (hS : ∀ i, 0 ≤ i → i < t.n → 1 ≤ t.S i) {x : Int → Int} (hx : ∀ i, 0 ≤ i → i < t.n → 0 ≤ x i ∧ x i ≤ t.M i) {cap : Int} (hc : KU t x t.n.toNat ≤ cap) : KW t x t.n.toNat ≤ KI t 0 cap := by
  have := KI_max hS hx t.n.toNat cap (by omega)
  rw [Int.toNat_of_nonneg hn] at this
  simp only [Int.sub_self, Int.zero_add] at this
  have h2 := this hc
  unfold KI; rwa [Int.sub_zero]
end Go.Proofs.Gw
