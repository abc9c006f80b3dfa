/- What dual feasible functions and certificates of them promise, plain. -/
import Derived.Test.YtmlfpniaknmmfaaFc
import Derived.Test.YtmlfpniaknmmfaaGj
namespace Go.Proofs.Gw
open Go Go.RowKit
set_option linter.unusedVariables false
set_option linter.unusedSimpArgs false

theorem quo_near {c q d : Int} (hc : 1 ≤ c) (e : c * q = d) (h1 : -c < d) (h2 : d < 2 * c) : (q = 0 ∧ d = 0) ∨ (q = 1 ∧ d = c) := by
  have h3 : q < 2 := by
    rcases Int.lt_or_le q 2 with h | h
    · exact h
    · have := Int.mul_le_mul_of_nonneg_left h (show 0 ≤ c by omega); omega
  have h4 : -1 < q := by
    rcases Int.lt_or_le (-1) q with h | h
    · exact h
    · have := Int.mul_le_mul_of_nonneg_left h (show 0 ≤ c by omega); omega
  have : q = 0 ∨ q = 1 := by omega
  rcases this with rfl | rfl
  · left; omega
  · right; omega
/-- What Steps does, by the quotient and the rest. -/
theorem step_split {k x c : Int} (hk : 1 ≤ k) (hx : 0 ≤ x) (hc : 1 ≤ c) : ∃ m r, (k + 1) * x = c * m + r ∧ 0 ≤ r ∧ r < c ∧ 0 ≤ m ∧ ((r = 0 ∧ dfv 1 k x c = k * x) ∨ (r ≠ 0 ∧ dfv 1 k x c = c * m)) := by
  have h0 : 0 ≤ (k + 1) * x := Int.mul_nonneg (by omega) hx
  refine ⟨(k + 1) * x / c, (k + 1) * x % c, (Int.mul_ediv_add_emod _ _).symm, Int.emod_nonneg _ (by omega), Int.emod_lt_of_pos _ (by omega), Int.ediv_nonneg h0 (by omega), ?_⟩
  by_cases h : ((k + 1) * x).tmod c = 0
  · left; rw [dfv1a h]; rw [Int.tmod_eq_emod_of_nonneg h0] at h; exact ⟨h, rfl⟩
  · right; rw [dfv1b h]; rw [Int.tmod_eq_emod_of_nonneg h0] at h; exact ⟨h, by rw [Int.tdiv_eq_ediv_of_nonneg h0, Int.mul_comm]⟩
theorem succ_mul {k x : Int} : (k + 1) * x = k * x + x := by rw [Int.add_mul, Int.one_mul]
theorem dfv_mono {kind k x y c : Int} (h : okF kind k c) (hx : 0 ≤ x) (hxy : x ≤ y) (hy : y ≤ c) (hc : 1 ≤ c) : dfv kind k x c ≤ dfv kind k y c := by
  rcases h with ⟨rfl, rfl⟩ | ⟨rfl, hk⟩ | ⟨rfl, hk⟩
  · rw [dfv0, dfv0]; exact hxy
  · obtain ⟨m, r, e, r0, r1, m0, hd⟩ := step_split hk.1 hx hc
    obtain ⟨m', r', e', r0', r1', m0', hd'⟩ := step_split hk.1 (show 0 ≤ y by omega) hc
    have hkx : k * x ≤ k * y := Int.mul_le_mul_of_nonneg_left hxy (by omega)
    rw [succ_mul] at e e'
    have hm : m ≤ m' := by
      rcases Int.lt_or_le m' m with h | h
      · have := Int.mul_le_mul_of_nonneg_left (show m' + 1 ≤ m by omega) (show 0 ≤ c by omega)
        rw [Int.mul_add, Int.mul_one] at this; omega
      · exact h
    have hcm : c * m ≤ c * m' := Int.mul_le_mul_of_nonneg_left hm (by omega)
    rcases hd with ⟨h1, h2⟩ | ⟨h1, h2⟩ <;> rcases hd' with ⟨h3, h4⟩ | ⟨h3, h4⟩
    · omega
    · omega
    · have : m ≠ m' := by intro hh; subst hh; omega
      have := Int.mul_le_mul_of_nonneg_left (show m + 1 ≤ m' by omega) (show 0 ≤ c by omega)
      rw [Int.mul_add, Int.mul_one] at this; omega
    · omega
  · have e := half_facts (show 0 ≤ c by omega)
    unfold dfv
    simp only [show ¬ (2 : Int) = 0 by omega, show ¬ (2 : Int) = 1 by omega, if_false]
    split <;> split <;> (try split) <;> (try split) <;> omega
theorem dfv_sup {kind k x y c : Int} (h : okF kind k c) (hx : 0 ≤ x) (hy : 0 ≤ y) (hxy : x + y ≤ c) (hc : 1 ≤ c) : dfv kind k x c + dfv kind k y c ≤ dfv kind k (x + y) c := by
  rcases h with ⟨rfl, rfl⟩ | ⟨rfl, hk⟩ | ⟨rfl, hk⟩
  · rw [dfv0, dfv0, dfv0]; exact Int.le_refl _
  · obtain ⟨m1, r1, e1, a1, b1, c1, hd1⟩ := step_split hk.1 hx hc
    obtain ⟨m2, r2, e2, a2, b2, c2, hd2⟩ := step_split hk.1 hy hc
    obtain ⟨m3, r3, e3, a3, b3, c3, hd3⟩ := step_split hk.1 (show 0 ≤ x + y by omega) hc
    rw [Int.mul_add] at e3
    have hkxy : k * (x + y) = k * x + k * y := Int.mul_add _ _ _
    rw [succ_mul] at e1 e2
    rw [succ_mul, succ_mul] at e3
    have q := quo_near (c := c) (q := m3 - (m1 + m2)) (d := r1 + r2 - r3) hc (by rw [Int.mul_sub, Int.mul_add]; omega) (by omega) (by omega)
    have p1 : 0 ≤ k * x := Int.mul_nonneg (by omega) hx
    have p2 : 0 ≤ k * y := Int.mul_nonneg (by omega) hy
    rcases q with ⟨q1, q2⟩ | ⟨q1, q2⟩
    · have em : m3 = m1 + m2 := by omega
      have em2 : c * m3 = c * m1 + c * m2 := by rw [em, Int.mul_add]
      omega
    · have em : m3 = m1 + m2 + 1 := by omega
      have em2 : c * m3 = c * m1 + c * m2 + c := by rw [em, Int.mul_add, Int.mul_add, Int.mul_one]
      omega
  · have e := half_facts (show 0 ≤ c by omega)
    unfold dfv
    simp only [show ¬ (2 : Int) = 0 by omega, show ¬ (2 : Int) = 1 by omega, if_false]
    split <;> split <;> split <;> (try split) <;> (try split) <;> (try split) <;> omega
theorem dfv_zero {kind k c : Int} (h : okF kind k c) (hc : 1 ≤ c) : dfv kind k 0 c = 0 := by
  rcases h with ⟨rfl, rfl⟩ | ⟨rfl, hk⟩ | ⟨rfl, hk⟩
  · rfl
  · rw [dfv1a (by simp)]; simp
  · have e := half_facts (show 0 ≤ c by omega)
    rw [dfv2b (by omega) (by omega)]
/-- Each term is at most so many sheets. -/
theorem term_top {x : Crt} {d : Dem} {s : Sht} (h : DOk d s) (hx : x.ok s) {i : Int} (h0 : 0 ≤ i) (h1 : i < d.n) (hg : ¬ d.great s i) : x.term d s i ≤ 1000 * x.top s := by
  have e := h.all i h0 h1
  unfold Dem.each at e
  have ht := top_bd h hx
  by_cases hn : 0 < d.N i
  · have g := fits_of h h0 h1 hn hg
    have b := term_bd h hx h0 h1 hn hg
    have b1 := h.w1; have b2 := h.h1; have b3 := h.k1
    have m1 : x.f s (d.W i + s.kf) ≤ x.f s (s.w + s.kf) := dfv_mono hx.1 (by omega) (by omega) (Int.le_refl _) (by omega)
    have m2 : x.g s (d.H i + s.kf) ≤ x.g s (s.h + s.kf) := dfv_mono hx.2 (by omega) (by omega) (Int.le_refl _) (by omega)
    have m3 : x.f s (d.W i + s.kf) * x.g s (d.H i + s.kf) ≤ x.top s := Int.mul_le_mul m1 m2 (by omega) (by omega)
    have m4 : d.N i * (x.f s (d.W i + s.kf) * x.g s (d.H i + s.kf)) ≤ 1000 * x.top s := Int.mul_le_mul e.2.2.2.2.2 m3 (Int.mul_nonneg (by omega) (by omega)) (by omega)
    unfold Crt.term
    rw [Int.mul_assoc]; exact m4
  · rw [term_zero h h0 h1 hn]; omega
theorem sum_top {x : Crt} {d : Dem} {s : Sht} (h : DOk d s) (hx : x.ok s) (hg : ¬ DGreat d s) : ∀ n : Nat, (n : Int) ≤ d.n → x.sum d s n ≤ n * (1000 * x.top s)
  | 0, _ => by simp [Crt.sum, sumTo]
  | n + 1, hn => by
    have h1 := sum_top h hx hg n (by omega)
    have h2 := term_top h hx (i := n) (by omega) (by omega) (fun hh => hg ⟨n, by omega, by omega, hh⟩)
    have h3 := sum_next x d s (i := n) (by omega)
    rw [show ((n : Int) + 1).toNat = n + 1 by omega, show (n : Int).toNat = n by omega] at h3
    rw [h3]
    have : ((n + 1 : Nat) : Int) * (1000 * x.top s) = n * (1000 * x.top s) + 1000 * x.top s := by rw [Int.natCast_add, Int.add_mul]; simp
    omega
theorem val_spec {x : Crt} {d : Dem} {s : Sht} (h : DOk d s) (hx : x.ok s) (hn : 0 ≤ d.n) (hg : ¬ DGreat d s) : x.sum d s d.n.toNat ≤ x.val d s * x.top s ∧ x.val d s ≤ 20000 := by
  have ht := top_bd h hx
  have hs := sum_bd h hx hn (Int.le_refl _) (fun k a0 a1 hh => hg ⟨k, a0, a1, hh⟩)
  refine ⟨(ceil_spec hs.1 (by omega)).1, ceil_le hs.1 (by omega) ?_⟩
  have h1 := sum_top h hx hg d.n.toNat (by omega)
  have h2 := h.few
  have h3 : (d.n.toNat : Int) * (1000 * x.top s) ≤ 20 * (1000 * x.top s) := Int.mul_le_mul_of_nonneg_right (by omega) (by omega)
  omega
/-- More and greater rectangles. -/
structure DMore (d d' : Dem) : Prop where
  n : d'.n = d.n
  W : ∀ i, 0 ≤ i → i < d.n → d.W i ≤ d'.W i
  H : ∀ i, 0 ≤ i → i < d.n → d.H i ≤ d'.H i
  N : ∀ i, 0 ≤ i → i < d.n → d.N i ≤ d'.N i
theorem term_more {x : Crt} {d d' : Dem} {s : Sht} (h : DOk d s) (h' : DOk d' s) (hx : x.ok s) (hg : ¬ DGreat d s) (hg' : ¬ DGreat d' s) (hm : DMore d d') {i : Int} (h0 : 0 ≤ i) (h1 : i < d.n) : x.term d s i ≤ x.term d' s i := by
  have e := h.all i h0 h1
  have e' := h'.all i h0 (by rw [hm.n]; exact h1)
  unfold Dem.each at e e'
  have b' := term_any h' hx h0 (by rw [hm.n]; exact h1) (fun hh => hg' ⟨i, h0, by rw [hm.n]; exact h1, hh⟩)
  by_cases hn : 0 < d.N i
  · have mN := hm.N i h0 h1
    have mW := hm.W i h0 h1
    have mH := hm.H i h0 h1
    have g := fits_of h h0 h1 hn (fun hh => hg ⟨i, h0, h1, hh⟩)
    have g' := fits_of h' h0 (by rw [hm.n]; exact h1) (show 0 < d'.N i by omega) (fun hh => hg' ⟨i, h0, by rw [hm.n]; exact h1, hh⟩)
    have b := term_bd h hx h0 h1 hn (fun hh => hg ⟨i, h0, h1, hh⟩)
    have c := term_bd h' hx h0 (by rw [hm.n]; exact h1) (show 0 < d'.N i by omega) (fun hh => hg' ⟨i, h0, by rw [hm.n]; exact h1, hh⟩)
    have b1 := h.w1; have b2 := h.h1; have b3 := h.k1
    have m1 : x.f s (d.W i + s.kf) ≤ x.f s (d'.W i + s.kf) := dfv_mono hx.1 (by omega) (by omega) (by omega) (by omega)
    have m2 : x.g s (d.H i + s.kf) ≤ x.g s (d'.H i + s.kf) := dfv_mono hx.2 (by omega) (by omega) (by omega) (by omega)
    have m3 := Int.mul_le_mul mN m1 b.1 (show 0 ≤ d'.N i by omega)
    exact Int.mul_le_mul m3 m2 b.2.2.1 c.2.2.2.2.1
  · rw [term_zero h h0 h1 hn]; exact b'.1
theorem sum_more {x : Crt} {d d' : Dem} {s : Sht} (h : DOk d s) (h' : DOk d' s) (hx : x.ok s) (hg : ¬ DGreat d s) (hg' : ¬ DGreat d' s) (hm : DMore d d') : ∀ n : Nat, (n : Int) ≤ d.n → x.sum d s n ≤ x.sum d' s n
  | 0, _ => by simp [Crt.sum, sumTo]
  | n + 1, hn => by
    have h1 := sum_more h h' hx hg hg' hm n (by omega)
    have h2 := term_more h h' hx hg hg' hm (i := n) (by omega) (by omega)
    have h3 := sum_next x d s (i := n) (by omega)
    have h4 := sum_next x d' s (i := n) (by omega)
    rw [show ((n : Int) + 1).toNat = n + 1 by omega, show (n : Int).toNat = n by omega] at h3 h4
    omega
theorem val_more {x : Crt} {d d' : Dem} {s : Sht} (h : DOk d s) (h' : DOk d' s) (hx : x.ok s) (hn : 0 ≤ d.n) (hg : ¬ DGreat d s) (hg' : ¬ DGreat d' s) (hm : DMore d d') : x.val d s ≤ x.val d' s := by
  have ht := top_bd h hx
  have hs := sum_bd h hx hn (Int.le_refl _) (fun k a0 a1 hh => hg ⟨k, a0, a1, hh⟩)
  have v' := (val_spec h' hx (by rw [hm.n]; exact hn) hg').1
  have hm2 := sum_more h h' hx hg hg' hm d.n.toNat (by omega)
  rw [hm.n] at v'
  exact ceil_le hs.1 (by omega) (by omega)
/-- The areas. -/
def area (d : Dem) (s : Sht) (i : Int) : Int := d.N i * (d.W i + s.kf) * (d.H i + s.kf)
def greats (d : Dem) (s : Sht) (i : Int) : Int := if s.w + s.kf < 2 * (d.W i + s.kf) ∧ s.h + s.kf < 2 * (d.H i + s.kf) then d.N i else 0
theorem sumTo_same {f g : Int → Int} : ∀ n : Nat, (∀ k : Int, 0 ≤ k → k < n → f k = g k) → sumTo f n = sumTo g n
  | 0, _ => rfl
  | n + 1, h => by
    have h1 := sumTo_same n (fun k k0 k1 => h k k0 (by omega))
    have h2 := h n (by omega) (by omega)
    have e1 := sumTo_next f (i := n) (by omega)
    have e2 := sumTo_next g (i := n) (by omega)
    rw [show ((n : Int) + 1).toNat = n + 1 by omega, show (n : Int).toNat = n by omega] at e1 e2
    omega
theorem sumTo_lec {f g : Int → Int} {c : Int} : ∀ n : Nat, (∀ k : Int, 0 ≤ k → k < n → f k * c ≤ g k) → sumTo f n * c ≤ sumTo g n
  | 0, _ => by simp [sumTo]
  | n + 1, h => by
    have h1 := sumTo_lec n (fun k k0 k1 => h k k0 (by omega))
    have h2 := h n (by omega) (by omega)
    have e1 := sumTo_next f (i := n) (by omega)
    have e2 := sumTo_next g (i := n) (by omega)
    rw [show ((n : Int) + 1).toNat = n + 1 by omega, show (n : Int).toNat = n by omega] at e1 e2
    rw [e1, e2, Int.add_mul]
    omega
theorem steps_great {x c : Int} (hx : 0 ≤ x) (hxc : x ≤ c) (hc : 1 ≤ c) (hg : c < 2 * x) : dfv 1 1 x c = c := by
  obtain ⟨m, r, e, r0, r1, m0, hd⟩ := step_split (k := 1) (by omega) hx hc
  rw [succ_mul, Int.one_mul] at e
  have q := quo_near (c := c) (q := m - 1) (d := x + x - r - c) hc (by rw [Int.mul_sub]; omega) (by omega) (by omega)
  rcases q with ⟨q1, q2⟩ | ⟨q1, q2⟩
  · have : m = 1 := by omega
    subst this
    rcases hd with ⟨h1, h2⟩ | ⟨h1, h2⟩ <;> omega
  · have : m = 2 := by omega
    subst this
    rcases hd with ⟨h1, h2⟩ | ⟨h1, h2⟩ <;> omega
theorem steps_top {c : Int} (hc : 1 ≤ c) : dfv 1 1 c c = c := steps_great (by omega) (Int.le_refl _) hc (by omega)
theorem val_area {d : Dem} {s : Sht} (h : DOk d s) (hn : 0 ≤ d.n) (hg : ¬ DGreat d s) : sumTo (area d s) d.n.toNat ≤ Crt.val ⟨0, 0, 0, 0⟩ d s * (s.w + s.kf) * (s.h + s.kf) := by
  have v := (val_spec h (ok_plain s) hn hg).1
  have e : Crt.sum ⟨0, 0, 0, 0⟩ d s d.n.toNat = sumTo (area d s) d.n.toNat := sumTo_same _ fun k k0 k1 => rfl
  rw [e] at v
  rw [Int.mul_assoc]; exact v
theorem steps_ok {d : Dem} {s : Sht} (h : DOk d s) : Crt.ok ⟨1, 1, 1, 1⟩ s := ⟨.inr (.inl ⟨rfl, by dsimp only; omega⟩), .inr (.inl ⟨rfl, by dsimp only; omega⟩)⟩
theorem val_greats {d : Dem} {s : Sht} (h : DOk d s) (hn : 0 ≤ d.n) (hg : ¬ DGreat d s) : sumTo (greats d s) d.n.toNat ≤ Crt.val ⟨1, 1, 1, 1⟩ d s := by
  have v := (val_spec h (steps_ok h) hn hg).1
  have ht := top_bd h (steps_ok h)
  have b1 := h.w1; have b2 := h.h1; have b3 := h.k1
  have etop : Crt.top ⟨1, 1, 1, 1⟩ s = (s.w + s.kf) * (s.h + s.kf) := by
    unfold Crt.top Crt.f Crt.g
    rw [steps_top (by omega), steps_top (by omega)]
  have key : sumTo (greats d s) d.n.toNat * Crt.top ⟨1, 1, 1, 1⟩ s ≤ Crt.sum ⟨1, 1, 1, 1⟩ d s d.n.toNat := by
    refine sumTo_lec _ fun k k0 k1 => ?_
    have hk : k < d.n := by omega
    have e := h.all k k0 hk
    unfold Dem.each at e
    have hng : ¬ d.great s k := fun hh => hg ⟨k, k0, hk, hh⟩
    have b := (term_any h (steps_ok h) k0 hk hng).1
    unfold greats
    by_cases hgr : s.w + s.kf < 2 * (d.W k + s.kf) ∧ s.h + s.kf < 2 * (d.H k + s.kf)
    · rw [if_pos hgr]
      by_cases hN : 0 < d.N k
      · have g := fits_of h k0 hk hN hng
        unfold Crt.term Crt.f Crt.g
        rw [etop, steps_great (by omega) (by omega) (by omega) hgr.1, steps_great (by omega) (by omega) (by omega) hgr.2, Int.mul_assoc]
        exact Int.le_refl _
      · rw [show d.N k = 0 by omega, Int.zero_mul]; exact b
    · rw [if_neg hgr, Int.zero_mul]; exact b
  have : Crt.top ⟨1, 1, 1, 1⟩ s * sumTo (greats d s) d.n.toNat ≤ Crt.top ⟨1, 1, 1, 1⟩ s * Crt.val ⟨1, 1, 1, 1⟩ d s := by
    rw [Int.mul_comm _ (sumTo _ _), Int.mul_comm _ (Crt.val _ _ _)]; omega
  exact le_of_mul (by omega) this
/-- The best value is at least these. -/
theorem CandL.one {S : Int → Prop} {l : List (Int × Int)} (h : CandL S l) : l[1]? = some (1, 1) := by
  obtain ⟨m, rfl, _⟩ := h
  rfl
theorem best_least {d : Dem} {s : Sht} {a : Int} {x y : Int × Int} (h : DOk d s) (hn : 0 ≤ d.n) (hg : ¬ DGreat d s) (ha : CandL (WSet d d.W s.kf (s.w + s.kf)) (LA d s)) (hb : CandL (WSet d d.H s.kf (s.h + s.kf)) (LB d s)) (hB : BestOf (VV d s) (LA d s) (LB d s) a x y) :
    sumTo (area d s) d.n.toNat ≤ a * (s.w + s.kf) * (s.h + s.kf) ∧ sumTo (greats d s) d.n.toNat ≤ a ∧ 0 ≤ a ∧ a ≤ 20000 := by
  have h0 : VV d s (0, 0) (0, 0) ≤ a := hB.ge ha.len.2 hb.len.2
  have h1 : VV d s (1, 1) (1, 1) ≤ a := hB.ge ha.one hb.one
  obtain ⟨e, i, j, hi, hj⟩ := hB.is
  have hok := ok_of ha hb hi hj
  have hv := (val_spec h hok hn hg).2
  have hv0 := val_nonneg h hok hn hg
  have e' : a = Crt.val ⟨x.1, x.2, y.1, y.2⟩ d s := e
  rw [← e'] at hv hv0
  have b1 := h.w1; have b2 := h.h1; have b3 := h.k1
  refine ⟨Int.le_trans (val_area h hn hg) ?_, Int.le_trans (val_greats h hn hg) h1, hv0, hv⟩
  exact Int.mul_le_mul_of_nonneg_right (Int.mul_le_mul_of_nonneg_right h0 (by omega)) (by omega)
theorem BestR.ok {d : Dem} {s : Sht} {a e : Int} {x y : Int × Int} (h : BestR d s a x y e) (he : e = 0) : DOk d s ∧ ¬ DGreat d s ∧ CandL (WSet d d.W s.kf (s.w + s.kf)) (LA d s) ∧ CandL (WSet d d.H s.kf (s.h + s.kf)) (LB d s) ∧ BestOf (VV d s) (LA d s) (LB d s) a x y := by
  rcases h with ⟨_, _, _, _, h⟩ | ⟨_, _, _, _, _, h⟩ | ⟨h1, h2, _, h3, h4, h5⟩
  · omega
  · omega
  · exact ⟨h1, h2, h3, h4, h5⟩
theorem BestR.err {d : Dem} {s : Sht} {a e : Int} {x y : Int × Int} (h : BestR d s a x y e) (he : e ≠ 0) : a = 0 := by
  rcases h with ⟨_, h, _⟩ | ⟨_, _, h, _⟩ | ⟨h1, h2, h, _⟩
  · exact h
  · exact h
  · exact absurd h he
theorem ValueR.ok {x : Crt} {d : Dem} {s : Sht} {a e : Int} (h : ValueR x d s a e) (he : e = 0) : DOk d s ∧ x.ok s ∧ ¬ DGreat d s ∧ a = x.val d s := by
  rcases h with ⟨_, _, h⟩ | ⟨_, _, _, _, h⟩ | ⟨h1, h2, h3, h4, _⟩
  · omega
  · omega
  · exact ⟨h1, h2, h3, h4⟩
theorem ValueR.err {x : Crt} {d : Dem} {s : Sht} {a e : Int} (h : ValueR x d s a e) (he : e ≠ 0) : a = 0 := by
  rcases h with ⟨_, h, _⟩ | ⟨_, _, _, h, _⟩ | ⟨_, _, _, _, h⟩
  · exact h
  · exact h
  · exact absurd h he
theorem ApplyR.ok {kind k x c a e : Int} (h : ApplyR kind k x c a e) (he : e = 0) : okF kind k c ∧ a = dfv kind k x c := by
  rcases h with ⟨_, _, h1, _, _, h2, _⟩ | ⟨_, _, h⟩
  · exact ⟨h1, h2⟩
  · omega
theorem ApplyR.err {kind k x c a e : Int} (h : ApplyR kind k x c a e) (he : e ≠ 0) : a = 0 := by
  rcases h with ⟨_, _, _, _, _, _, h⟩ | ⟨_, h, _⟩
  · exact absurd h he
  · exact h
theorem ApplyR.is {kind k x c a e : Int} (h : ApplyR kind k x c a e) (h1 : 1 ≤ c) (h2 : c ≤ 4000) (h3 : okF kind k c) (h4 : 0 ≤ x) (h5 : x ≤ c) : a = dfv kind k x c ∧ e = 0 := by
  rcases h with ⟨_, _, _, _, _, a6, a7⟩ | ⟨a1, _⟩
  · exact ⟨a6, a7⟩
  · exact absurd ⟨h1, h2, h3, h4, h5⟩ a1
theorem upd_dcells0 (W H N : Int → Int) {k i x : Int} (h : k = 3 * i) : upd (dcells W H N) k (.int .i64 x) = dcells (upd W i x) H N := by
  funext j; unfold upd dcells; dsimp only
  by_cases e : j = k
  · rw [if_pos e, if_pos (by omega), if_pos (by omega)]
  · rw [if_neg e]
    by_cases e0 : j % 3 = 0
    · rw [if_pos e0, if_pos e0, if_neg (by omega)]
    · rw [if_neg e0, if_neg e0]
theorem upd_dcells1 (W H N : Int → Int) {k i x : Int} (h : k = 3 * i + 1) : upd (dcells W H N) k (.int .i64 x) = dcells W (upd H i x) N := by
  funext j; unfold upd dcells; dsimp only
  by_cases e : j = k
  · rw [if_pos e, if_neg (by omega), if_pos (by omega), if_pos (by omega)]
  · rw [if_neg e]
    by_cases e0 : j % 3 = 0
    · rw [if_pos e0, if_pos e0]
    · rw [if_neg e0, if_neg e0]
      by_cases e1 : j % 3 = 1
      · rw [if_pos e1, if_pos e1, if_neg (by omega)]
      · rw [if_neg e1, if_neg e1]
theorem upd_dcells2 (W H N : Int → Int) {k i x : Int} (h : k = 3 * i + 2) : upd (dcells W H N) k (.int .i64 x) = dcells W H (upd N i x) := by
  funext j; unfold upd dcells; dsimp only
  by_cases e : j = k
  · rw [if_pos e, if_neg (by omega), if_neg (by omega), if_pos (by omega)]
  · rw [if_neg e]
    by_cases e0 : j % 3 = 0
    · rw [if_pos e0, if_pos e0]
    · rw [if_neg e0, if_neg e0]
      by_cases e1 : j % 3 = 1
      · rw [if_pos e1, if_pos e1]
      · rw [if_neg e1, if_neg e1, if_neg (by omega)]
theorem more_of {d : Dem} {i x y z : Int} (hx : d.W i ≤ x) (hy : d.H i ≤ y) (hz : d.N i ≤ z) : DMore d ⟨d.n, upd d.W i x, upd d.H i y, upd d.N i z⟩ :=
  ⟨rfl, fun k _ _ => by by_cases e : k = i
                        · subst e; show _ ≤ upd _ _ _ _; rw [upd_self]; exact hx
                        · show _ ≤ upd _ _ _ _; rw [upd_ne _ _ e]; exact Int.le_refl _,
   fun k _ _ => by by_cases e : k = i
                   · subst e; show _ ≤ upd _ _ _ _; rw [upd_self]; exact hy
                   · show _ ≤ upd _ _ _ _; rw [upd_ne _ _ e]; exact Int.le_refl _,
   fun k _ _ => by by_cases e : k = i
                   · subst e; show _ ≤ upd _ _ _ _; rw [upd_self]; exact hz
                   · show _ ≤ upd _ _ _ _; rw [upd_ne _ _ e]; exact Int.le_refl _⟩
/-! The examples -/
theorem LA_ex : LA ⟨1, fun _ => 6, fun _ => 6, fun _ => 5⟩ ⟨10, 10, 0⟩ = base 5 ∧ LB ⟨1, fun _ => 6, fun _ => 6, fun _ => 5⟩ ⟨10, 10, 0⟩ = base 5 := by
  have e : CandL (WSet ⟨1, fun _ => 6, fun _ => 6, fun _ => 5⟩ (fun _ => 6) 0 10) (base 5) := CandL.start.congr fun a => ⟨fun h => h.elim, fun ⟨h1, h2, k, k0, k1, k2, k3⟩ => by
    rw [show (10 : Int).tdiv 2 = 5 from rfl] at h2; dsimp only at k3; omega⟩
  exact ⟨e.eq.1.symm, e.eq.1.symm⟩
theorem awake_best {a e : Int} {x y : Int × Int} (h : BestR ⟨1, fun _ => 6, fun _ => 6, fun _ => 5⟩ ⟨10, 10, 0⟩ a x y e) : a = 5 ∧ e = 0 := by
  have hk : DOk ⟨1, fun _ => 6, fun _ => 6, fun _ => 5⟩ ⟨10, 10, 0⟩ := ⟨by decide, by decide, by decide, by decide, by decide, by decide, by decide, fun i _ _ => by unfold Dem.each; dsimp only; omega⟩
  have hg : ¬ DGreat ⟨1, fun _ => 6, fun _ => 6, fun _ => 5⟩ ⟨10, 10, 0⟩ := fun ⟨i, _, _, h⟩ => by unfold Dem.great at h; dsimp only at h; omega
  rcases h with ⟨h, _⟩ | ⟨_, h, _⟩ | ⟨_, _, h1, _, _, h2⟩
  · exact absurd hk h
  · exact absurd h hg
  · rw [LA_ex.1, LA_ex.2] at h2
    obtain ⟨e1, i, j, hi, hj⟩ := h2.is
    have h3 := h2.ge (i := 1) (j := 1) (a := (1, 1)) (b := (1, 1)) rfl rfl
    have h4 : ((base 5).all fun p => (base 5).all fun q => decide (VV ⟨1, fun _ => 6, fun _ => 6, fun _ => 5⟩ ⟨10, 10, 0⟩ p q ≤ 5)) = true := by kernel_rfl
    have h5 := of_decide_eq_true (List.all_eq_true.1 (List.all_eq_true.1 h4 x (List.mem_of_getElem? hi)) y (List.mem_of_getElem? hj))
    have h6 : VV ⟨1, fun _ => 6, fun _ => 6, fun _ => 5⟩ ⟨10, 10, 0⟩ (1, 1) (1, 1) = 5 := by kernel_rfl
    omega
theorem awake_value {a e : Int} (h : ValueR ⟨1, 2, 1, 2⟩ ⟨1, fun _ => 4, fun _ => 4, fun _ => 9⟩ ⟨10, 10, 0⟩ a e) : a = 3 ∧ e = 0 := by
  have hk : DOk ⟨1, fun _ => 4, fun _ => 4, fun _ => 9⟩ ⟨10, 10, 0⟩ := ⟨by decide, by decide, by decide, by decide, by decide, by decide, by decide, fun i _ _ => by unfold Dem.each; dsimp only; omega⟩
  have hg : ¬ DGreat ⟨1, fun _ => 4, fun _ => 4, fun _ => 9⟩ ⟨10, 10, 0⟩ := fun ⟨i, _, _, h⟩ => by unfold Dem.great at h; dsimp only at h; omega
  have hx : Crt.ok ⟨1, 2, 1, 2⟩ ⟨10, 10, 0⟩ := ⟨.inr (.inl ⟨rfl, by dsimp only; omega⟩), .inr (.inl ⟨rfl, by dsimp only; omega⟩)⟩
  have hv : Crt.val ⟨1, 2, 1, 2⟩ ⟨1, fun _ => 4, fun _ => 4, fun _ => 9⟩ ⟨10, 10, 0⟩ = 3 := by decide
  rcases h with ⟨h, _⟩ | ⟨_, _, h, _⟩ | ⟨_, _, _, h1, h2⟩
  · exact absurd ⟨hk, hx⟩ h
  · exact absurd h hg
  · omega
end Go.Proofs.Gw
