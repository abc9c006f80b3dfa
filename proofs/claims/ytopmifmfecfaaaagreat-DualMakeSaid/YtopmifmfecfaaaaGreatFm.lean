/- Determinants, plain: linear in each row, none where two rows are equal. -/
import Derived.Test.YtopmifmfecfaaaaGreatFz
namespace Go.Proofs.Gw
open Go Go.RowKit
set_option linter.unusedVariables false
set_option linter.unusedSimpArgs false

def skp (i k : Int) : Int := if k < i then k else k + 1
def bck (i r : Int) : Int := if r < i then r else r - 1
theorem skp_bck {i r : Int} (e : i ≠ r) : skp i (bck i r) = r := by
  unfold skp bck
  by_cases h : r < i
  · rw [if_pos h, if_pos h]
  · rw [if_neg h, if_neg (by omega)]; omega
theorem skp_bck1 {i r : Int} (e : i ≠ r) (e1 : i ≠ r + 1) : skp i (bck i r + 1) = r + 1 := by
  unfold skp bck
  by_cases h : r < i
  · rw [if_pos h, if_pos (by omega)]
  · rw [if_neg h, if_neg (by omega)]; omega
theorem skp_ne {i r k : Int} (e : i ≠ r) (h : k ≠ bck i r) : skp i k ≠ r := by
  unfold bck at h; unfold skp
  split
  · split at h <;> omega
  · split at h <;> omega
theorem bck_rng {i r n : Int} (e : i ≠ r) (r0 : 0 ≤ r) (r1 : r ≤ n) (i0 : 0 ≤ i) (i1 : i ≤ n) : 0 ≤ bck i r ∧ bck i r < n := by
  unfold bck; split <;> omega
def alt (i : Int) : Int := if i % 2 = 0 then 1 else -1
/-- By the first column. -/
def det : Nat → (Int → Int → Int) → Int
  | 0, _ => 1
  | n + 1, A => sumTo (fun i => alt i * A i 0 * det n (fun k m => A (skp i k) (m + 1))) (n + 1)
theorem det_congr : ∀ {n : Nat} {A B : Int → Int → Int}, (∀ k m, 0 ≤ k → k < (n : Int) → 0 ≤ m → m < (n : Int) → A k m = B k m) → det n A = det n B
  | 0, _, _, _ => rfl
  | n + 1, A, B, h => by
    simp only [det]
    refine sumTo_congr fun i i0 i1 => ?_
    rw [h i 0 i0 i1 (by omega) (by omega), det_congr (n := n) (fun k m k0 k1 m0 m1 => h (skp i k) (m + 1) (by unfold skp; split <;> omega) (by unfold skp; split <;> omega) (by omega) (by omega))]
theorem det_lin : ∀ {n : Nat} {A U V : Int → Int → Int} {r a b : Int}, 0 ≤ r → r < (n : Int) → (∀ m, 0 ≤ m → m < (n : Int) → A r m = a * U r m + b * V r m) →
    (∀ k m, 0 ≤ k → k < (n : Int) → 0 ≤ m → m < (n : Int) → k ≠ r → U k m = A k m) → (∀ k m, 0 ≤ k → k < (n : Int) → 0 ≤ m → m < (n : Int) → k ≠ r → V k m = A k m) → det n A = a * det n U + b * det n V
  | 0, _, _, _, _, _, _, h0, h1, _, _, _ => by omega
  | n + 1, A, U, V, r, a, b, r0, r1, h, hU, hV => by
    simp only [det]
    have key := sumTo_lin (n := n + 1) (D := 1) (A := a) (B := -b) (h := fun i => alt i * A i 0 * det n (fun k m => A (skp i k) (m + 1))) (f := fun i => alt i * U i 0 * det n (fun k m => U (skp i k) (m + 1))) (g := fun i => alt i * V i 0 * det n (fun k m => V (skp i k) (m + 1))) (fun i i0 i1 => ?_)
    · grind
    · by_cases e : i = r
      · subst e
        have e1 : det n (fun k m => U (skp i k) (m + 1)) = det n (fun k m => A (skp i k) (m + 1)) := det_congr fun k m k0 k1 m0 m1 => hU _ _ (by unfold skp; split <;> omega) (by unfold skp; split <;> omega) (by omega) (by omega) (by unfold skp; split <;> omega)
        have e2 : det n (fun k m => V (skp i k) (m + 1)) = det n (fun k m => A (skp i k) (m + 1)) := det_congr fun k m k0 k1 m0 m1 => hV _ _ (by unfold skp; split <;> omega) (by unfold skp; split <;> omega) (by omega) (by omega) (by unfold skp; split <;> omega)
        rw [e1, e2, h 0 (by omega) (by omega)]
        grind
      · have hr := skp_bck e
        have hb := bck_rng (n := n) e r0 (by omega) i0 (by omega)
        have ih := det_lin (n := n) (A := fun k m => A (skp i k) (m + 1)) (U := fun k m => U (skp i k) (m + 1)) (V := fun k m => V (skp i k) (m + 1)) (r := bck i r) (a := a) (b := b) hb.1 hb.2
          (fun m m0 m1 => by show A (skp i (bck i r)) _ = _ * U (skp i (bck i r)) _ + _ * V (skp i (bck i r)) _; rw [hr]; exact h (m + 1) (by omega) (by omega))
          (fun k m k0 k1 m0 m1 hk => hU _ _ (by unfold skp; split <;> omega) (by unfold skp; split <;> omega) (by omega) (by omega) (skp_ne e hk))
          (fun k m k0 k1 m0 m1 hk => hV _ _ (by unfold skp; split <;> omega) (by unfold skp; split <;> omega) (by omega) (by omega) (skp_ne e hk))
        rw [ih, hU i 0 i0 i1 (by omega) (by omega) e, hV i 0 i0 i1 (by omega) (by omega) e]
        grind
theorem sumTo_two {f : Int → Int} {n : Nat} {r : Int} (r0 : 0 ≤ r) (r1 : r + 1 < (n : Int)) (h : ∀ i, 0 ≤ i → i < (n : Int) → i ≠ r → i ≠ r + 1 → f i = 0) (hs : f r + f (r + 1) = 0) : sumTo f n = 0 := by
  rw [sumTo_split (s := r) r0 (by omega), sumTo_split (s := r + 1) (by omega) r1]
  have : sumTo (fun j => if j = r + 1 then 0 else if j = r then 0 else f j) n = sumTo (fun _ => 0) n := sumTo_congr fun i i0 i1 => by
    by_cases e : i = r + 1
    · rw [if_pos e]
    · rw [if_neg e]
      by_cases e2 : i = r
      · rw [if_pos e2]
      · rw [if_neg e2]; exact h i i0 i1 e2 e
  rw [this, sumTo_zero, if_neg (by omega)]; omega
theorem det_adj : ∀ {n : Nat} {A : Int → Int → Int} {r : Int}, 0 ≤ r → r + 1 < (n : Int) → (∀ m, 0 ≤ m → m < (n : Int) → A r m = A (r + 1) m) → det n A = 0
  | 0, _, _, h0, h1, _ => by omega
  | n + 1, A, r, r0, r1, h => by
    simp only [det]
    refine sumTo_two r0 r1 (fun i i0 i1 e1 e2 => ?_) ?_
    · have hb := bck_rng (n := n) e1 r0 (by omega) i0 (by omega)
      have hb1 := bck_rng (n := n) e2 (by omega) (by omega) i0 (by omega)
      have hbb : bck i (r + 1) = bck i r + 1 := by unfold bck; split <;> (split <;> omega)
      have ih := det_adj (n := n) (A := fun k m => A (skp i k) (m + 1)) (r := bck i r) hb.1 (by omega) (fun m m0 m1 => by
        show A (skp i (bck i r)) _ = A (skp i (bck i r + 1)) _
        rw [skp_bck e1, skp_bck1 e1 e2]; exact h _ (by omega) (by omega))
      rw [ih]; simp
    · have e : det n (fun k m => A (skp r k) (m + 1)) = det n (fun k m => A (skp (r + 1) k) (m + 1)) := det_congr fun k m k0 k1 m0 m1 => by
        by_cases hk : k = r
        · have e1 : skp r k = r + 1 := by unfold skp; rw [if_neg (by omega)]; omega
          have e2 : skp (r + 1) k = r := by unfold skp; rw [if_pos (by omega)]; omega
          rw [e1, e2]; exact (h _ (by omega) (by omega)).symm
        · have e1 : skp r k = skp (r + 1) k := by unfold skp; split <;> (split <;> omega)
          rw [e1]
      have ea : alt (r + 1) = -alt r := by unfold alt; split <;> (split <;> omega)
      rw [e, ← h 0 (by omega) (by omega), ea]
      grind
def set2 (A : Int → Int → Int) (a b : Int) (u v : Int → Int) : Int → Int → Int := fun k => if k = a then u else if k = b then v else A k
theorem set2_a (A : Int → Int → Int) (a b : Int) (u v : Int → Int) : set2 A a b u v a = u := if_pos rfl
theorem set2_b (A : Int → Int → Int) {a b : Int} (u v : Int → Int) (h : a ≠ b) : set2 A a b u v b = v := by unfold set2; rw [if_neg (fun e => h e.symm), if_pos rfl]
theorem set2_o (A : Int → Int → Int) {a b k : Int} (u v : Int → Int) (ha : k ≠ a) (hb : k ≠ b) : set2 A a b u v k = A k := by unfold set2; rw [if_neg ha, if_neg hb]
/-- Linear in both rows, none where they are equal: turned, it is the negative. -/
theorem det_skew {n : Nat} {A : Int → Int → Int} {a b : Int} (a0 : 0 ≤ a) (a1 : a < (n : Int)) (b0 : 0 ≤ b) (b1 : b < (n : Int)) (hab : a ≠ b) (hz : ∀ w : Int → Int, det n (set2 A a b w w) = 0) (u v : Int → Int) : det n (set2 A a b u v) = -det n (set2 A a b v u) := by
  have s1 : ∀ x y z : Int → Int, det n (set2 A a b (fun m => x m + y m) z) = det n (set2 A a b x z) + det n (set2 A a b y z) := fun x y z => by
    have := det_lin (n := n) (A := set2 A a b (fun m => x m + y m) z) (U := set2 A a b x z) (V := set2 A a b y z) (r := a) (a := 1) (b := 1) a0 a1 (fun m _ _ => by rw [set2_a, set2_a, set2_a]; omega)
      (fun k m _ _ _ _ hk => by unfold set2; rw [if_neg hk, if_neg hk]) (fun k m _ _ _ _ hk => by unfold set2; rw [if_neg hk, if_neg hk])
    omega
  have s2 : ∀ x y z : Int → Int, det n (set2 A a b z (fun m => x m + y m)) = det n (set2 A a b z x) + det n (set2 A a b z y) := fun x y z => by
    have := det_lin (n := n) (A := set2 A a b z (fun m => x m + y m)) (U := set2 A a b z x) (V := set2 A a b z y) (r := b) (a := 1) (b := 1) b0 b1 (fun m _ _ => by rw [set2_b _ _ _ hab, set2_b _ _ _ hab, set2_b _ _ _ hab]; omega)
      (fun k m _ _ _ _ hk => by unfold set2; rw [if_neg hk, if_neg hk]) (fun k m _ _ _ _ hk => by unfold set2; rw [if_neg hk, if_neg hk])
    omega
  have h := hz (fun m => u m + v m)
  rw [s1, s2, s2, hz u, hz v] at h
  omega
theorem set2_self (A : Int → Int → Int) (a b : Int) : set2 A a b (A a) (A b) = A := by
  funext k; unfold set2
  by_cases h : k = a
  · rw [if_pos h, h]
  · rw [if_neg h]
    by_cases h2 : k = b
    · rw [if_pos h2, h2]
    · rw [if_neg h2]
theorem det_eqr : ∀ (d : Nat) {n : Nat} {A : Int → Int → Int} {a b : Int}, 0 ≤ a → b = a + 1 + d → b < (n : Int) → (∀ m, 0 ≤ m → m < (n : Int) → A a m = A b m) → det n A = 0
  | 0, n, A, a, b, a0, hb, b1, h => det_adj a0 (by omega) (fun m m0 m1 => by rw [h m m0 m1, show b = a + 1 by omega])
  | d + 1, n, A, a, b, a0, hb, b1, h => by
    have hsw := det_skew (n := n) (A := A) (a := b - 1) (b := b) (by omega) (by omega) (by omega) b1 (by omega) (fun w => det_adj (r := b - 1) (by omega) (by omega) (fun m _ _ => by rw [set2_a, show b - 1 + 1 = b by omega, set2_b _ _ _ (by omega)])) (A (b - 1)) (A b)
    rw [set2_self] at hsw
    have := det_eqr d (n := n) (A := set2 A (b - 1) b (A b) (A (b - 1))) (a := a) (b := b - 1) a0 (by omega) (by omega) (fun m m0 m1 => by rw [set2_a, set2_o _ _ _ (by omega) (by omega)]; exact h m m0 m1)
    omega
theorem det_eq0 {n : Nat} {A : Int → Int → Int} {a b : Int} (a0 : 0 ≤ a) (a1 : a < (n : Int)) (b0 : 0 ≤ b) (b1 : b < (n : Int)) (hab : a ≠ b) (h : ∀ m, 0 ≤ m → m < (n : Int) → A a m = A b m) : det n A = 0 := by
  rcases Int.lt_or_gt_of_ne hab with e | e
  · exact det_eqr (b - a - 1).toNat a0 (by omega) b1 h
  · exact det_eqr (a - b - 1).toNat b0 (by omega) a1 (fun m m0 m1 => (h m m0 m1).symm)
theorem det_turn {n : Nat} (A : Int → Int → Int) {a b : Int} (a0 : 0 ≤ a) (a1 : a < (n : Int)) (b0 : 0 ≤ b) (b1 : b < (n : Int)) (hab : a ≠ b) (u v : Int → Int) : det n (set2 A a b u v) = -det n (set2 A a b v u) :=
  det_skew a0 a1 b0 b1 hab (fun w => det_eq0 a0 a1 b0 b1 hab fun m _ _ => by rw [set2_a, set2_b _ _ _ hab]) u v
/-- A row that is a sum. -/
theorem det_sum {n : Nat} (A : Int → Int → Int) {s : Int} (s0 : 0 ≤ s) (s1 : s < (n : Int)) (c : Int → Int) (G : Int → Int → Int) : ∀ K : Nat, det n (upd A s (fun m => sumTo (fun k => c k * G k m) K)) = sumTo (fun k => c k * det n (upd A s (G k))) K
  | 0 => by
    have := det_lin (n := n) (A := upd A s (fun m => sumTo (fun k => c k * G k m) 0)) (U := A) (V := A) (r := s) (a := 0) (b := 0) s0 s1 (fun m _ _ => by rw [gu_self]; simp [sumTo]) (fun k m _ _ _ _ hk => by rw [gu_ne hk]) (fun k m _ _ _ _ hk => by rw [gu_ne hk])
    simp only [sumTo] at *; omega
  | K + 1 => by
    have ih := det_sum A s0 s1 c G K
    have := det_lin (n := n) (A := upd A s (fun m => sumTo (fun k => c k * G k m) (K + 1))) (U := upd A s (fun m => sumTo (fun k => c k * G k m) K)) (V := upd A s (G K)) (r := s) (a := 1) (b := c K) s0 s1
      (fun m _ _ => by rw [gu_self, gu_self, gu_self]; simp [sumTo]) (fun k m _ _ _ _ hk => by rw [gu_ne hk, gu_ne hk]) (fun k m _ _ _ _ hk => by rw [gu_ne hk, gu_ne hk])
    rw [this, ih]; simp only [sumTo]; omega
def idm (k m : Int) : Int := if k = m then 1 else 0
theorem det_id : ∀ n : Nat, det n idm = 1
  | 0 => rfl
  | n + 1 => by
    simp only [det]
    have e : sumTo (fun i => alt i * idm i 0 * det n (fun k m => idm (skp i k) (m + 1))) (n + 1) = alt 0 * idm 0 0 * det n (fun k m => idm (skp 0 k) (m + 1)) := by
      rw [sumTo_split (s := 0) (by omega) (by omega)]
      have : sumTo (fun j => if j = 0 then 0 else alt j * idm j 0 * det n (fun k m => idm (skp j k) (m + 1))) (n + 1) = sumTo (fun _ => 0) (n + 1) := sumTo_congr fun i i0 i1 => by
        by_cases e : i = 0
        · rw [if_pos e]
        · rw [if_neg e]; unfold idm; rw [if_neg e]; simp
      rw [this, sumTo_zero]; omega
    rw [e]
    have e2 : det n (fun k m => idm (skp 0 k) (m + 1)) = det n idm := det_congr fun k m k0 k1 m0 m1 => by
      have h1 : skp 0 k = k + 1 := by unfold skp; rw [if_neg (by omega)]
      rw [h1]; unfold idm
      by_cases h : k = m
      · rw [if_pos h, if_pos (by omega)]
      · rw [if_neg h, if_neg (by omega)]
    rw [e2, det_id n]; rfl
end Go.Proofs.Gw
