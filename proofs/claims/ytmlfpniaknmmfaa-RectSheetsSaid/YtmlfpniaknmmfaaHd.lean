/- Cut trees, plain: what they cut out of a sheet has no certificate of a greater value. No program in sight. -/
import Derived.Test.YtmlfpniaknmmfaaFe
namespace Go.Proofs.Gw
open Go Go.RowKit
set_option linter.unusedVariables false
set_option linter.unusedSimpArgs false
theorem sumTo_upd (u : Int → Int) {i : Int} (x : Int) (i0 : 0 ≤ i) : ∀ n : Nat, i < (n : Int) → sumTo (upd u i x) n = sumTo u n - u i + x
  | 0, h => by omega
  | n + 1, h => by
    simp only [sumTo]
    by_cases e : i = n
    · subst e
      rw [upd_self, sumTo_congr (g := u) (n := n) fun j j0 j1 => upd_ne u x (by omega)]; omega
    · rw [upd_ne u x (by omega), sumTo_upd u x i0 n (by omega)]; omega
def bump (f : Int → Int) (i : Int) : Int → Int := upd f i (f i + 1)
/-- A cut tree's nodes. -/
structure Tree where
  n : Int
  V : Int → Prop
  A : Int → Int
  F : Int → Int
  S : Int → Int
  K : Int → Int
def Tree.leaf (t : Tree) (i : Int) : Prop := t.F i = -1 ∧ t.S i = -1
open Classical in
/-- How many of the first nodes have a node as a part. -/
noncomputable def Tree.seen (t : Tree) : Nat → Int → Int
  | 0 => fun _ => 0
  | k + 1 => if t.leaf k then t.seen k else bump (bump (t.seen k) (t.F k)) (t.S k)
structure Tree.Shaped (t : Tree) : Prop where
  n1 : 1 ≤ t.n
  n2 : t.n ≤ 4000
  lf : ∀ i, 0 ≤ i → i < t.n → t.leaf i → ¬ t.V i
  kd : ∀ i, 0 ≤ i → i < t.n → ¬ t.leaf i → i < t.F i ∧ t.F i < t.n ∧ i < t.S i ∧ t.S i < t.n
  one : ∀ j, 1 ≤ j → j < t.n → t.seen t.n.toNat j = 1
open Classical in
/-- Width and height of the nodes' boxes, the first nodes being cut. -/
noncomputable def Tree.bx (t : Tree) (w h kf : Int) : Nat → (Int → Int) × (Int → Int)
  | 0 => (upd (fun _ => 0) 0 w, upd (fun _ => 0) 0 h)
  | k + 1 => if t.leaf k then t.bx w h kf k else
      if t.V k then (upd (upd (t.bx w h kf k).1 (t.F k) (t.A k)) (t.S k) (max 0 ((t.bx w h kf k).1 k - t.A k - kf)), upd (upd (t.bx w h kf k).2 (t.F k) ((t.bx w h kf k).2 k)) (t.S k) ((t.bx w h kf k).2 k))
      else (upd (upd (t.bx w h kf k).1 (t.F k) ((t.bx w h kf k).1 k)) (t.S k) ((t.bx w h kf k).1 k), upd (upd (t.bx w h kf k).2 (t.F k) (t.A k)) (t.S k) (max 0 ((t.bx w h kf k).2 k - t.A k - kf)))
def Tree.whole (t : Tree) (i : Int) : Prop := (t.leaf i ∧ t.A i = 0) ∨ (¬ t.leaf i ∧ t.K i = -1)
def Tree.cutok (t : Tree) (w h kf i : Int) : Prop := t.whole i ∧ (¬ t.leaf i → 1 ≤ t.A i ∧ (t.V i → t.A i < (t.bx w h kf i.toNat).1 i) ∧ (¬ t.V i → t.A i < (t.bx w h kf i.toNat).2 i))
def Tree.Boxed (t : Tree) (w h kf : Int) : Prop := ∀ i, 0 ≤ i → i < t.n → t.cutok w h kf i
def Tree.plc (t : Tree) (m : Int) (kw kh : Int → Int) (w h kf i : Int) : Prop := t.leaf i → t.K i ≠ -1 → (0 ≤ t.K i ∧ t.K i < m) ∧ kw (t.K i) = (t.bx w h kf t.n.toNat).1 i ∧ kh (t.K i) = (t.bx w h kf t.n.toNat).2 i
structure Kinds where
  m : Int
  w : Int → Int
  h : Int → Int
  v : Int → Int
structure Prob37 (q : Kinds) (s : Sht) : Prop where
  all : ∀ i, 0 ≤ i → i < q.m → 1 ≤ q.w i ∧ q.w i ≤ 2000 ∧ 1 ≤ q.h i ∧ q.h i ≤ 2000 ∧ 0 ≤ q.v i ∧ q.v i ≤ 1000000
  few : q.m ≤ 20
  w1 : 1 ≤ s.w
  w2 : s.w ≤ 2000
  h1 : 1 ≤ s.h
  h2 : s.h ≤ 2000
  k1 : 0 ≤ s.kf
  k2 : s.kf ≤ 50
/-- A tree that is valid for kinds and a sheet. -/
structure Tree.Ok (t : Tree) (q : Kinds) (s : Sht) : Prop where
  p : Prob37 q s
  sh : t.Shaped
  bx : t.Boxed s.w s.h s.kf
  pl : ∀ i, 0 ≤ i → i < t.n → t.plc q.m q.w q.h s.w s.h s.kf i
def Tree.piece (t : Tree) (m i : Int) : Prop := (t.leaf i ∧ t.A i = 0 ∧ ¬ t.V i) ∧ 0 ≤ t.K i ∧ t.K i < m
open Classical in
/-- How many pieces of each kind the first nodes are. -/
noncomputable def Tree.cnt (t : Tree) (m : Int) : Nat → Int → Int
  | 0 => fun _ => 0
  | k + 1 => if t.piece m k then bump (t.cnt m k) (t.K k) else t.cnt m k

section
variable {t : Tree}
theorem seen_leaf {k : Nat} (h : t.leaf k) : t.seen (k + 1) = t.seen k := by simp only [Tree.seen]; rw [if_pos h]
theorem seen_cut {k : Nat} (h : ¬ t.leaf k) : t.seen (k + 1) = bump (bump (t.seen k) (t.F k)) (t.S k) := by simp only [Tree.seen]; rw [if_neg h]
theorem bump_ne {f : Int → Int} {i j : Int} (h : j ≠ i) : bump f i j = f j := upd_ne _ _ h
theorem bump_self (f : Int → Int) (i : Int) : bump f i i = f i + 1 := upd_self _ _ _
theorem bump_ge (f : Int → Int) (i j : Int) : f j ≤ bump f i j := by
  by_cases e : j = i
  · rw [e, bump_self]; omega
  · rw [bump_ne e]; omega
theorem seen_up (k : Nat) (j : Int) : t.seen k j ≤ t.seen (k + 1) j := by
  by_cases h : t.leaf k
  · rw [seen_leaf h]; omega
  · rw [seen_cut h]
    have h1 := bump_ge (t.seen k) (t.F k) j
    have h2 := bump_ge (bump (t.seen k) (t.F k)) (t.S k) j
    omega
theorem seen_ups (k : Nat) (j : Int) : ∀ d : Nat, t.seen k j ≤ t.seen (k + d) j
  | 0 => by simp
  | d + 1 => Int.le_trans (seen_ups k j d) (seen_up (k + d) j)
theorem seen_nn (k : Nat) (j : Int) : 0 ≤ t.seen k j := by
  have := seen_ups (t := t) 0 j k
  simp only [Tree.seen, Nat.zero_add] at this; exact this
theorem seen_stay (hs : t.Shaped) {k : Nat} {j : Int} (hj : j ≤ k) : ∀ d : Nat, ((k + d : Nat) : Int) ≤ t.n → t.seen (k + d) j = t.seen k j
  | 0, _ => rfl
  | d + 1, h => by
    have ih := seen_stay hs hj d (by omega)
    by_cases hl : t.leaf ((k + d : Nat) : Int)
    · rw [show k + (d + 1) = (k + d) + 1 by omega, seen_leaf hl, ih]
    · have hk := hs.kd ((k + d : Nat) : Int) (by omega) (by omega) hl
      rw [show k + (d + 1) = (k + d) + 1 by omega, seen_cut hl, bump_ne (by omega), bump_ne (by omega), ih]
theorem seen_own (hs : t.Shaped) {k : Nat} (hk : (k : Int) < t.n) : (if (k : Int) = 0 then 1 else 0) + t.seen k k = 1 := by
  by_cases e : k = 0
  · subst e; simp [Tree.seen]
  · have h1 := seen_stay hs (k := k) (j := k) (Int.le_refl _) (t.n.toNat - k) (by omega)
    rw [show k + (t.n.toNat - k) = t.n.toNat by omega, hs.one k (by omega) hk] at h1
    rw [if_neg (by omega)]; omega
/-- The parts of a cut are two nodes that no earlier cut has. -/
theorem kids_new (hs : t.Shaped) {k : Nat} (hk : (k : Int) < t.n) (hl : ¬ t.leaf k) : t.F k ≠ t.S k ∧ t.seen k (t.F k) = 0 ∧ t.seen k (t.S k) = 0 := by
  obtain ⟨h1, h2, h3, h4⟩ := hs.kd k (by omega) hk hl
  have up : ∀ j, t.seen (k + 1) j ≤ t.seen t.n.toNat j := fun j => by
    have := seen_ups (t := t) (k + 1) j (t.n.toNat - (k + 1))
    rwa [show k + 1 + (t.n.toNat - (k + 1)) = t.n.toNat by omega] at this
  have hF := up (t.F k); have hS := up (t.S k)
  rw [hs.one _ (by omega) h2] at hF
  rw [hs.one _ (by omega) h4] at hS
  rw [seen_cut hl] at hF hS
  have n1 := seen_nn (t := t) k (t.F k); have n2 := seen_nn (t := t) k (t.S k)
  by_cases e : t.F k = t.S k
  · rw [e, bump_self, bump_self] at hF
    omega
  · rw [bump_ne e, bump_self] at hF
    rw [bump_self, bump_ne (Ne.symm e)] at hS
    exact ⟨e, by omega, by omega⟩
end
section
variable {t : Tree} {w h kf : Int}
theorem bx_leaf {k : Nat} (hl : t.leaf k) : t.bx w h kf (k + 1) = t.bx w h kf k := by simp only [Tree.bx]; rw [if_pos hl]
theorem bx_ver {k : Nat} (hl : ¬ t.leaf k) (hv : t.V k) : t.bx w h kf (k + 1) = (upd (upd (t.bx w h kf k).1 (t.F k) (t.A k)) (t.S k) (max 0 ((t.bx w h kf k).1 k - t.A k - kf)), upd (upd (t.bx w h kf k).2 (t.F k) ((t.bx w h kf k).2 k)) (t.S k) ((t.bx w h kf k).2 k)) := by simp only [Tree.bx]; rw [if_neg hl, if_pos hv]
theorem bx_hor {k : Nat} (hl : ¬ t.leaf k) (hv : ¬ t.V k) : t.bx w h kf (k + 1) = (upd (upd (t.bx w h kf k).1 (t.F k) ((t.bx w h kf k).1 k)) (t.S k) ((t.bx w h kf k).1 k), upd (upd (t.bx w h kf k).2 (t.F k) (t.A k)) (t.S k) (max 0 ((t.bx w h kf k).2 k - t.A k - kf))) := by simp only [Tree.bx]; rw [if_neg hl, if_neg hv]
/-- What a step leaves, and what it sets. -/
theorem bx_step {k : Nat} (hl : ¬ t.leaf k) (hne : t.F k ≠ t.S k) : (∀ j, j ≠ t.F k → j ≠ t.S k → (t.bx w h kf (k + 1)).1 j = (t.bx w h kf k).1 j ∧ (t.bx w h kf (k + 1)).2 j = (t.bx w h kf k).2 j) ∧
    (t.V k → (t.bx w h kf (k + 1)).1 (t.F k) = t.A k ∧ (t.bx w h kf (k + 1)).2 (t.F k) = (t.bx w h kf k).2 k ∧ (t.bx w h kf (k + 1)).1 (t.S k) = max 0 ((t.bx w h kf k).1 k - t.A k - kf) ∧ (t.bx w h kf (k + 1)).2 (t.S k) = (t.bx w h kf k).2 k) ∧
    (¬ t.V k → (t.bx w h kf (k + 1)).1 (t.F k) = (t.bx w h kf k).1 k ∧ (t.bx w h kf (k + 1)).2 (t.F k) = t.A k ∧ (t.bx w h kf (k + 1)).1 (t.S k) = (t.bx w h kf k).1 k ∧ (t.bx w h kf (k + 1)).2 (t.S k) = max 0 ((t.bx w h kf k).2 k - t.A k - kf)) := by
  by_cases hv : t.V k
  · rw [bx_ver hl hv]
    refine ⟨fun j j1 j2 => ?_, fun _ => ?_, fun hh => absurd hv hh⟩
    · dsimp only; rw [upd_ne _ _ j2, upd_ne _ _ j1, upd_ne _ _ j2, upd_ne _ _ j1]; exact ⟨rfl, rfl⟩
    · dsimp only; rw [upd_ne _ _ hne, upd_self, upd_ne _ _ hne, upd_self, upd_self, upd_self]; exact ⟨rfl, rfl, rfl, rfl⟩
  · rw [bx_hor hl hv]
    refine ⟨fun j j1 j2 => ?_, fun hh => absurd hh hv, fun _ => ?_⟩
    · dsimp only; rw [upd_ne _ _ j2, upd_ne _ _ j1, upd_ne _ _ j2, upd_ne _ _ j1]; exact ⟨rfl, rfl⟩
    · dsimp only; rw [upd_ne _ _ hne, upd_self, upd_ne _ _ hne, upd_self, upd_self, upd_self]; exact ⟨rfl, rfl, rfl, rfl⟩
theorem bx_rng (hs : t.Shaped) (hb : t.Boxed w h kf) (w0 : 0 ≤ w) (h0 : 0 ≤ h) (k0 : 0 ≤ kf) : ∀ k : Nat, (k : Int) ≤ t.n → ∀ j, (0 ≤ (t.bx w h kf k).1 j ∧ (t.bx w h kf k).1 j ≤ w) ∧ (0 ≤ (t.bx w h kf k).2 j ∧ (t.bx w h kf k).2 j ≤ h)
  | 0, _, j => by
    simp only [Tree.bx]
    by_cases e : j = 0
    · rw [e, upd_self, upd_self]; omega
    · rw [upd_ne _ _ e, upd_ne _ _ e]; omega
  | k + 1, hk, j => by
    have ih := bx_rng hs hb w0 h0 k0 k (by omega)
    by_cases hl : t.leaf k
    · rw [bx_leaf hl]; exact ih j
    · obtain ⟨hne, _⟩ := kids_new hs (by omega) hl
      obtain ⟨g1, g2, g3⟩ := bx_step (w := w) (h := h) (kf := kf) hl hne
      have hc := (hb k (by omega) (by omega)).2 hl
      rw [Int.toNat_natCast] at hc
      have hkk := ih k
      by_cases hv : t.V k
      · obtain ⟨a1, a2, a3, a4⟩ := g2 hv
        have := hc.2.1 hv
        by_cases e1 : j = t.F k
        · rw [e1, a1, a2]; omega
        · by_cases e2 : j = t.S k
          · rw [e2, a3, a4]; omega
          · obtain ⟨b1, b2⟩ := g1 j e1 e2
            rw [b1, b2]; exact ih j
      · obtain ⟨a1, a2, a3, a4⟩ := g3 hv
        have := hc.2.2 hv
        by_cases e1 : j = t.F k
        · rw [e1, a1, a2]; omega
        · by_cases e2 : j = t.S k
          · rw [e2, a3, a4]; omega
          · obtain ⟨b1, b2⟩ := g1 j e1 e2
            rw [b1, b2]; exact ih j
theorem bx_stay (hs : t.Shaped) {k : Nat} {j : Int} (hj : j ≤ k) : ∀ d : Nat, ((k + d : Nat) : Int) ≤ t.n → (t.bx w h kf (k + d)).1 j = (t.bx w h kf k).1 j ∧ (t.bx w h kf (k + d)).2 j = (t.bx w h kf k).2 j
  | 0, _ => ⟨rfl, rfl⟩
  | d + 1, hd => by
    have ih := bx_stay hs hj d (by omega)
    by_cases hl : t.leaf ((k + d : Nat) : Int)
    · rw [show k + (d + 1) = (k + d) + 1 by omega, bx_leaf hl]; exact ih
    · have hk := hs.kd ((k + d : Nat) : Int) (by omega) (by omega) hl
      obtain ⟨hne, _⟩ := kids_new hs (by omega) hl
      obtain ⟨g1, _⟩ := bx_step (w := w) (h := h) (kf := kf) hl hne
      obtain ⟨b1, b2⟩ := g1 j (by omega) (by omega)
      rw [show k + (d + 1) = (k + d) + 1 by omega, b1, b2]; exact ih
end
/-! What a box is worth -/
/-- A function of sizes that adds up to no more for two parts and the kerf between them. -/
structure Dff (f : Int → Int) (w kf : Int) : Prop where
  nn : ∀ x, 0 ≤ x → x ≤ w → 0 ≤ f x
  mono : ∀ x y, 0 ≤ x → x ≤ y → y ≤ w → f x ≤ f y
  sup : ∀ x y, 0 ≤ x → 0 ≤ y → x + y + kf ≤ w → f x + f y ≤ f (x + y + kf)
theorem dff_of {kind k w kf : Int} (h : okF kind k (w + kf)) (hw : 1 ≤ w) (hk : 0 ≤ kf) (hc : w + kf ≤ 4000) : Dff (fun x => dfv kind k (x + kf) (w + kf)) w kf :=
  ⟨fun x h0 h1 => (dfv_bd h (by omega) (by omega) (by omega) hc).1, fun x y h0 h1 h2 => dfv_mono h (by omega) (by omega) (by omega) (by omega), fun x y h0 h1 h2 => by
    have := dfv_sup h (x := x + kf) (y := y + kf) (by omega) (by omega) (by omega) (by omega)
    rw [show x + y + kf + kf = x + kf + (y + kf) by omega]; exact this⟩
def bxv (f g : Int → Int) (x y : Int) : Int := if 1 ≤ x ∧ 1 ≤ y then f x * g y else 0
section
variable {f g : Int → Int} {w h kf : Int}
theorem bxv_nn (hf : Dff f w kf) (hg : Dff g h kf) {x y : Int} (x1 : x ≤ w) (y1 : y ≤ h) : 0 ≤ bxv f g x y := by
  unfold bxv; split
  · exact Int.mul_nonneg (hf.nn x (by omega) x1) (hg.nn y (by omega) y1)
  · exact Int.le_refl _
theorem bxv_ver (hf : Dff f w kf) (hg : Dff g h kf) (k0 : 0 ≤ kf) {x y a : Int} (x1 : x ≤ w) (y1 : y ≤ h) (a1 : 1 ≤ a) (a2 : a < x) : bxv f g a y + bxv f g (max 0 (x - a - kf)) y ≤ bxv f g x y := by
  unfold bxv
  by_cases hy : 1 ≤ y
  · rw [if_pos ⟨a1, hy⟩, if_pos (show 1 ≤ x ∧ 1 ≤ y from ⟨by omega, hy⟩)]
    have hn := hg.nn y (by omega) y1
    by_cases hx : 1 ≤ x - a - kf
    · rw [if_pos ⟨by omega, hy⟩, ← Int.add_mul]
      have h1 := hf.sup a (x - a - kf) (by omega) (by omega) (by omega)
      rw [show a + (x - a - kf) + kf = x by omega] at h1
      rw [show max 0 (x - a - kf) = x - a - kf by omega]
      exact Int.mul_le_mul_of_nonneg_right h1 hn
    · rw [if_neg (by omega)]
      have := Int.mul_le_mul_of_nonneg_right (hf.mono a x (by omega) (by omega) x1) hn
      omega
  · rw [if_neg (by omega), if_neg (by omega), if_neg (by omega)]; omega
theorem bxv_sym (x y : Int) : bxv f g x y = bxv g f y x := by
  unfold bxv
  by_cases e : 1 ≤ x ∧ 1 ≤ y
  · rw [if_pos e, if_pos ⟨e.2, e.1⟩, Int.mul_comm]
  · rw [if_neg e, if_neg (fun hh => e ⟨hh.2, hh.1⟩)]
theorem bxv_hor (hf : Dff f w kf) (hg : Dff g h kf) (k0 : 0 ≤ kf) {x y a : Int} (x1 : x ≤ w) (y1 : y ≤ h) (a1 : 1 ≤ a) (a2 : a < y) : bxv f g x a + bxv f g x (max 0 (y - a - kf)) ≤ bxv f g x y := by
  rw [bxv_sym x a, bxv_sym x y, bxv_sym x (max 0 (y - a - kf))]
  exact bxv_ver hg hf k0 y1 x1 a1 a2
end
/-! The pieces of a tree -/
section
variable {t : Tree} {q : Kinds} {s : Sht} {f g : Int → Int}
open Classical in
noncomputable def pcv (t : Tree) (q : Kinds) (f g : Int → Int) (i : Int) : Int := if t.piece q.m i then f (q.w (t.K i)) * g (q.h (t.K i)) else 0
noncomputable def opn (t : Tree) (s : Sht) (f g : Int → Int) (k : Nat) (j : Int) : Int := if (k : Int) ≤ j then ((if j = 0 then 1 else 0) + t.seen k j) * bxv f g ((t.bx s.w s.h s.kf k).1 j) ((t.bx s.w s.h s.kf k).2 j) else 0
theorem pcv_le (h : t.Ok q s) (hf : Dff f s.w s.kf) (hg : Dff g s.h s.kf) {k : Nat} (hk : (k : Int) < t.n) (hl : t.leaf k) : pcv t q f g k ≤ bxv f g ((t.bx s.w s.h s.kf k).1 k) ((t.bx s.w s.h s.kf k).2 k) := by
  have hp := h.p
  obtain ⟨⟨_, r2⟩, ⟨_, r4⟩⟩ := bx_rng h.sh h.bx (by have := hp.w1; omega) (by have := hp.h1; omega) hp.k1 k (by omega) k
  unfold pcv
  split
  · rename_i hpc
    obtain ⟨h1, h2, h3⟩ := h.pl k (by omega) hk hl (by have := hpc.2.1; omega)
    obtain ⟨b1, b2⟩ := bx_stay (w := s.w) (h := s.h) (kf := s.kf) h.sh (k := k) (j := k) (Int.le_refl _) (t.n.toNat - k) (by omega)
    rw [show k + (t.n.toNat - k) = t.n.toNat by omega] at b1 b2
    obtain ⟨a1, _, a3, _⟩ := hp.all _ h1.1 h1.2
    rw [h2, b1] at a1 ⊢
    rw [h3, b2] at a3 ⊢
    unfold bxv
    rw [if_pos ⟨a1, a3⟩]; exact Int.le_refl _
  · exact bxv_nn hf hg r2 r4
theorem opn_own (h : t.Ok q s) {k : Nat} (hk : (k : Int) < t.n) : opn t s f g k k = bxv f g ((t.bx s.w s.h s.kf k).1 k) ((t.bx s.w s.h s.kf k).2 k) := by
  unfold opn
  rw [if_pos (Int.le_refl _), seen_own h.sh hk, Int.one_mul]
theorem opn_step (h : t.Ok q s) (hf : Dff f s.w s.kf) (hg : Dff g s.h s.kf) {k : Nat} (hk : (k : Int) < t.n) : sumTo (pcv t q f g) (k + 1) + sumTo (opn t s f g (k + 1)) t.n.toNat ≤ sumTo (pcv t q f g) k + sumTo (opn t s f g k) t.n.toNat := by
  have hp := h.p
  have ho := opn_own (f := f) (g := g) h hk
  have hu := sumTo_upd (opn t s f g k) (i := k) 0 (by omega) t.n.toNat (by omega)
  rw [ho] at hu
  have hpn : sumTo (pcv t q f g) (k + 1) = sumTo (pcv t q f g) k + pcv t q f g k := rfl
  by_cases hl : t.leaf k
  · have h1 := pcv_le h hf hg hk hl
    have h2 : sumTo (opn t s f g (k + 1)) t.n.toNat = sumTo (upd (opn t s f g k) k 0) t.n.toNat := sumTo_congr fun j j0 j1 => by
      by_cases e : j = k
      · rw [e, upd_self]; unfold opn; rw [if_neg (by omega)]
      · rw [upd_ne _ _ e]; unfold opn; rw [seen_leaf hl, bx_leaf hl]
        by_cases e2 : (k : Int) ≤ j
        · rw [if_pos e2, if_pos (by omega)]
        · rw [if_neg e2, if_neg (by omega)]
    omega
  · obtain ⟨hne, z1, z2⟩ := kids_new h.sh hk hl
    obtain ⟨c1, c2, c3, c4⟩ := h.sh.kd k (by omega) hk hl
    obtain ⟨g1, g2, g3⟩ := bx_step (w := s.w) (h := s.h) (kf := s.kf) hl hne
    have hc := (h.bx k (by omega) hk).2 hl
    rw [Int.toNat_natCast] at hc
    obtain ⟨⟨r1, r2⟩, ⟨r3, r4⟩⟩ := bx_rng h.sh h.bx (by have := hp.w1; omega) (by have := hp.h1; omega) hp.k1 k (by omega) k
    have hpz : pcv t q f g k = 0 := by unfold pcv; rw [if_neg (fun hh => hl hh.1.1)]
    have b0 : ∀ j, (k : Int) < j → t.seen k j = 0 → opn t s f g k j = 0 := fun j j0 jz => by unfold opn; rw [if_pos (by omega), jz, if_neg (by omega)]; omega
    have hP : bxv f g ((t.bx s.w s.h s.kf (k + 1)).1 (t.F k)) ((t.bx s.w s.h s.kf (k + 1)).2 (t.F k)) + bxv f g ((t.bx s.w s.h s.kf (k + 1)).1 (t.S k)) ((t.bx s.w s.h s.kf (k + 1)).2 (t.S k)) ≤ bxv f g ((t.bx s.w s.h s.kf k).1 k) ((t.bx s.w s.h s.kf k).2 k) := by
      by_cases hv : t.V k
      · obtain ⟨a1, a2, a3, a4⟩ := g2 hv
        rw [a1, a2, a3, a4]; exact bxv_ver hf hg hp.k1 r2 r4 hc.1 (hc.2.1 hv)
      · obtain ⟨a1, a2, a3, a4⟩ := g3 hv
        rw [a1, a2, a3, a4]; exact bxv_hor hf hg hp.k1 r2 r4 hc.1 (hc.2.2 hv)
    have h2 : sumTo (opn t s f g (k + 1)) t.n.toNat = sumTo (upd (upd (upd (opn t s f g k) k 0) (t.F k) (bxv f g ((t.bx s.w s.h s.kf (k + 1)).1 (t.F k)) ((t.bx s.w s.h s.kf (k + 1)).2 (t.F k)))) (t.S k) (bxv f g ((t.bx s.w s.h s.kf (k + 1)).1 (t.S k)) ((t.bx s.w s.h s.kf (k + 1)).2 (t.S k)))) t.n.toNat := sumTo_congr fun j j0 j1 => by
      by_cases e1 : j = t.S k
      · rw [e1, upd_self]; unfold opn
        rw [if_pos (by omega), seen_cut hl, bump_self, bump_ne (Ne.symm hne), z2, if_neg (by omega)]; omega
      · rw [upd_ne _ _ e1]
        by_cases e2 : j = t.F k
        · rw [e2, upd_self]; unfold opn
          rw [if_pos (by omega), seen_cut hl, bump_ne hne, bump_self, z1, if_neg (by omega)]; omega
        · rw [upd_ne _ _ e2]
          by_cases e3 : j = k
          · rw [e3, upd_self]; unfold opn; rw [if_neg (by omega)]
          · rw [upd_ne _ _ e3]; unfold opn
            obtain ⟨b1, b2⟩ := g1 j e2 e1
            rw [seen_cut hl, bump_ne e1, bump_ne e2, b1, b2]
            by_cases e4 : (k : Int) ≤ j
            · rw [if_pos e4, if_pos (by omega)]
            · rw [if_neg e4, if_neg (by omega)]
    rw [sumTo_upd _ _ (by omega) _ (by omega), sumTo_upd _ _ (by omega) _ (by omega), hu, upd_ne _ _ (Ne.symm hne), upd_ne _ _ (by omega), upd_ne _ _ (by omega), b0 _ c1 z1, b0 _ c3 z2] at h2
    omega
theorem opn_all (h : t.Ok q s) (hf : Dff f s.w s.kf) (hg : Dff g s.h s.kf) : ∀ k : Nat, (k : Int) ≤ t.n → sumTo (pcv t q f g) k + sumTo (opn t s f g k) t.n.toNat ≤ f s.w * g s.h
  | 0, _ => by
    have h1 := h.sh.n1
    have e : sumTo (opn t s f g 0) t.n.toNat = sumTo (upd (fun _ => 0) 0 (f s.w * g s.h)) t.n.toNat := sumTo_congr fun j j0 j1 => by
      unfold opn
      rw [if_pos (by omega)]
      by_cases e : j = 0
      · rw [e, upd_self]
        simp only [Tree.seen, Tree.bx, upd_self]
        unfold bxv
        rw [if_pos trivial, if_pos ⟨h.p.w1, h.p.h1⟩]; omega
      · rw [upd_ne _ _ e, if_neg e]; simp [Tree.seen]
    rw [e, sumTo_upd _ _ (by omega) _ (by omega), sumTo_zero]
    simp only [sumTo]; omega
  | k + 1, hk => Int.le_trans (opn_step h hf hg (by omega)) (opn_all h hf hg k (by omega))
theorem pcs_le (h : t.Ok q s) (hf : Dff f s.w s.kf) (hg : Dff g s.h s.kf) : sumTo (pcv t q f g) t.n.toNat ≤ f s.w * g s.h := by
  have h1 := opn_all h hf hg t.n.toNat (by have := h.sh.n1; omega)
  have e : sumTo (opn t s f g t.n.toNat) t.n.toNat = 0 := by
    rw [← sumTo_zero t.n.toNat]
    exact sumTo_congr fun j j0 j1 => by unfold opn; rw [if_neg (by omega)]
  omega
/-! The numbers of pieces -/
theorem cnt_in {m : Int} {k : Nat} (h : t.piece m k) : t.cnt m (k + 1) = bump (t.cnt m k) (t.K k) := by simp only [Tree.cnt]; rw [if_pos h]
theorem cnt_out {m : Int} {k : Nat} (h : ¬ t.piece m k) : t.cnt m (k + 1) = t.cnt m k := by simp only [Tree.cnt]; rw [if_neg h]
theorem cnt_sum (t : Tree) (q : Kinds) (f g : Int → Int) : ∀ k : Nat, sumTo (fun i => t.cnt q.m k i * (f (q.w i) * g (q.h i))) q.m.toNat = sumTo (pcv t q f g) k
  | 0 => by
    have : sumTo (fun i => t.cnt q.m 0 i * (f (q.w i) * g (q.h i))) q.m.toNat = sumTo (fun _ => 0) q.m.toNat := sumTo_congr fun j _ _ => by simp [Tree.cnt]
    rw [this, sumTo_zero]; rfl
  | k + 1 => by
    have ih := cnt_sum t q f g k
    by_cases h : t.piece q.m k
    · have e : sumTo (fun i => t.cnt q.m (k + 1) i * (f (q.w i) * g (q.h i))) q.m.toNat = sumTo (upd (fun i => t.cnt q.m k i * (f (q.w i) * g (q.h i))) (t.K k) (t.cnt q.m k (t.K k) * (f (q.w (t.K k)) * g (q.h (t.K k))) + f (q.w (t.K k)) * g (q.h (t.K k)))) q.m.toNat := sumTo_congr fun j _ _ => by
        rw [cnt_in h]
        by_cases e : j = t.K k
        · rw [e, bump_self, upd_self, Int.add_mul]; omega
        · rw [bump_ne e, upd_ne _ _ e]
      rw [e, sumTo_upd _ _ h.2.1 _ (by have := h.2; omega), ih]
      show _ = sumTo (pcv t q f g) k + pcv t q f g k
      have : pcv t q f g k = f (q.w (t.K k)) * g (q.h (t.K k)) := by unfold pcv; rw [if_pos h]
      omega
    · rw [cnt_out h, ih]
      show _ = sumTo (pcv t q f g) k + pcv t q f g k
      have : pcv t q f g k = 0 := by unfold pcv; rw [if_neg h]
      omega
theorem cnt_nn (t : Tree) (m : Int) : ∀ (k : Nat) (j : Int), 0 ≤ t.cnt m k j
  | 0, j => Int.le_refl _
  | k + 1, j => by
    have ih := cnt_nn t m k
    by_cases h : t.piece m k
    · rw [cnt_in h]; exact Int.le_trans (ih j) (bump_ge _ _ _)
    · rw [cnt_out h]; exact ih j
theorem cnt_pos {m : Int} : ∀ (k : Nat) (j : Int), 0 < t.cnt m k j → ∃ i : Nat, i < k ∧ t.piece m i ∧ t.K i = j
  | 0, j, h => absurd h (by simp [Tree.cnt])
  | k + 1, j, h => by
    by_cases hp : t.piece m k
    · by_cases e : j = t.K k
      · exact ⟨k, by omega, hp, e.symm⟩
      · rw [cnt_in hp, bump_ne e] at h
        obtain ⟨i, i1, i2⟩ := cnt_pos k j h
        exact ⟨i, by omega, i2⟩
    · rw [cnt_out hp] at h
      obtain ⟨i, i1, i2⟩ := cnt_pos k j h
      exact ⟨i, by omega, i2⟩
theorem cnt_fits (h : t.Ok q s) {j : Int} (hj : 0 < t.cnt q.m t.n.toNat j) : (0 ≤ j ∧ j < q.m) ∧ q.w j ≤ s.w ∧ q.h j ≤ s.h := by
  obtain ⟨i, i1, i2, i3⟩ := cnt_pos _ j hj
  have hp := h.p
  obtain ⟨h1, h2, h3⟩ := h.pl i (by omega) (by omega) i2.1.1 (by have := i2.2.1; omega)
  obtain ⟨⟨_, r2⟩, ⟨_, r4⟩⟩ := bx_rng h.sh h.bx (by have := hp.w1; omega) (by have := hp.h1; omega) hp.k1 t.n.toNat (by have := h.sh.n1; omega) i
  rw [i3] at h1 h2 h3
  exact ⟨h1, by omega, by omega⟩
/-- A tree has one leaf more than cuts. -/
theorem leaves (hs : t.Shaped) : ∀ k : Nat, (k : Int) ≤ t.n → ∀ m j, sumTo (t.seen k) t.n.toNat + 2 * t.cnt m k j ≤ 2 * k
  | 0, _, m, j => by
    have : sumTo (t.seen 0) t.n.toNat = 0 := sumTo_zero _
    rw [this]; simp [Tree.cnt]
  | k + 1, hk, m, j => by
    have ih := leaves hs k (by omega) m j
    by_cases hl : t.leaf k
    · rw [seen_leaf hl]
      by_cases hp : t.piece m k
      · rw [cnt_in hp]
        by_cases e : j = t.K k
        · rw [e, bump_self]; rw [e] at ih; omega
        · rw [bump_ne e]; omega
      · rw [cnt_out hp]; omega
    · have hp : ¬ t.piece m k := fun hh => hl hh.1.1
      obtain ⟨c1, c2, c3, c4⟩ := hs.kd k (by omega) (by omega) hl
      rw [seen_cut hl, cnt_out hp]
      unfold bump
      rw [sumTo_upd _ _ (by omega) _ (by omega), sumTo_upd _ _ (by omega) _ (by omega)]; omega
theorem cnt_few (hs : t.Shaped) (m j : Int) : 2 * t.cnt m t.n.toNat j ≤ t.n + 1 := by
  have h1 := leaves hs t.n.toNat (by have := hs.n1; omega) m j
  have n1 := hs.n1
  have e : sumTo (t.seen t.n.toNat) t.n.toNat = sumTo (upd (fun _ => 1) 0 0) t.n.toNat := sumTo_congr fun i i0 i1 => by
    by_cases e : i = 0
    · rw [e, upd_self]
      have := seen_stay hs (k := 0) (j := 0) (Int.le_refl _) t.n.toNat (by omega)
      rw [Nat.zero_add] at this; rw [this]; rfl
    · rw [upd_ne _ _ e]; exact hs.one i (by omega) (by omega)
  rw [e, sumTo_upd _ _ (by omega) _ (by omega), sumTo_const] at h1
  omega
end
end Go.Proofs.Gw
