/- Every division of a pivot is exact: the numbers of a tableau are determinants. And what a run may end with. -/
import Derived.Test.YtopmifmfecfaaaaGreatFm
namespace Go.Proofs.Gw
open Go Go.RowKit
set_option linter.unusedVariables false
set_option linter.unusedSimpArgs false

theorem sumTo_first (f : Int → Int) : ∀ n : Nat, sumTo f (n + 1) = f 0 + sumTo (fun j => f (j + 1)) n
  | 0 => by simp [sumTo]
  | n + 1 => by
    have := sumTo_first f n
    simp only [sumTo] at *
    rw [this, show ((n + 1 : Nat) : Int) = (n : Int) + 1 by omega]; omega
theorem sumTo_pick {f : Int → Int} {n : Nat} {s : Int} (s0 : 0 ≤ s) (s1 : s < (n : Int)) (h : ∀ k, 0 ≤ k → k < (n : Int) → k ≠ s → f k = 0) : sumTo f n = f s := by
  rw [sumTo_split s0 s1]
  have : sumTo (fun j => if j = s then 0 else f j) n = sumTo (fun _ => 0) n := sumTo_congr fun i i0 i1 => by
    by_cases e : i = s
    · rw [if_pos e]
    · rw [if_neg e]; exact h i i0 i1 e
  rw [this, sumTo_zero]; omega
theorem sumTo_pick2 {f : Int → Int} {n : Nat} {s j : Int} (s0 : 0 ≤ s) (s1 : s < (n : Int)) (j0 : 0 ≤ j) (j1 : j < (n : Int)) (hsj : s ≠ j) (h : ∀ k, 0 ≤ k → k < (n : Int) → k ≠ s → k ≠ j → f k = 0) : sumTo f n = f s + f j := by
  rw [sumTo_split s0 s1, sumTo_pick (s := j) j0 j1 (fun k k0 k1 hk => by
    by_cases e : k = s
    · rw [if_pos e]
    · rw [if_neg e]; exact h k k0 k1 e hk), if_neg (fun e => hsj e.symm)]
def frm (p : Lp) (q m : Int) : Int := if q < p.n then (if m = q + 1 then 1 else 0) else if m = 0 then -p.b (q - p.n) else p.A (q - p.n) (m - 1)
def cst (p : Lp) (m : Int) : Int := if m = 0 then 0 else p.c (m - 1)
def slt (p : Lp) (t : Tb) (k m : Int) : Int := if k = 0 then (if m = 0 then 1 else 0) else frm p (t.F (k - 1)) m
def lft (p : Lp) (t : Tb) (i m : Int) : Int := if i = 0 then cst p m else frm p (t.B (i - 1)) m
structure DInv (p : Lp) (t : Tb) (eps : Int) : Prop where
  e : eps = 1 ∨ eps = -1
  nf : t.nf = p.n
  n1 : 1 ≤ p.n
  den : eps * t.den = det (p.n.toNat + 1) (slt p t)
  cell : ∀ i j, 0 ≤ i → i ≤ t.nb → 0 ≤ j → j ≤ t.nf → eps * t.C i j = det (p.n.toNat + 1) (upd (slt p t) j (lft p t i))
  idt : ∀ m, 0 ≤ m → m ≤ p.n → Idt t (if m = 0 then 1 else 0) (cst p m) (fun q => frm p q m)
theorem upd_comm {α : Type} (f : Int → α) {a b : Int} (x y : α) (h : a ≠ b) : upd (upd f a x) b y = upd (upd f b y) a x := by
  funext k; unfold upd
  by_cases e : k = a
  · rw [if_pos e, if_neg (by omega), if_pos e]
  · rw [if_neg e, if_neg e]
theorem upd_twice {α : Type} (f : Int → α) (a : Int) (x y : α) : upd (upd f a x) a y = upd f a y := by
  funext k; unfold upd
  by_cases e : k = a
  · rw [if_pos e, if_pos e]
  · rw [if_neg e, if_neg e, if_neg e]
theorem upd_same {α : Type} (f : Int → α) (a : Int) : upd f a (f a) = f := by
  funext k; unfold upd
  by_cases e : k = a
  · rw [if_pos e, e]
  · rw [if_neg e]
theorem upd_set2 (A : Int → Int → Int) {a b : Int} (u v : Int → Int) (h : a ≠ b) : upd (upd A a u) b v = set2 A a b u v := by
  funext k; unfold upd set2
  by_cases e : k = a
  · rw [if_pos e, if_neg (by omega), if_pos e]
  · rw [if_neg e, if_neg e]
/-- The row's equation, as one of forms. -/
theorem DInv.row {p : Lp} {t : Tb} {eps : Int} (h : DInv p t eps) {i : Int} (i0 : 0 ≤ i) (i1 : i ≤ t.nb) {m : Int} (m0 : 0 ≤ m) (m1 : m ≤ p.n) : t.den * lft p t i m = sumTo (fun k => t.C i k * slt p t k m) (p.n.toNat + 1) := by
  have := h.idt m m0 m1 i i0 i1
  have hn := h.nf
  have e : lhsv t (cst p m) (fun q => frm p q m) i = lft p t i m := rfl
  rw [e] at this
  rw [this, sumTo_first]
  unfold rowv
  rw [hn]
  have : sumTo (fun j => t.C i (j + 1) * frm p (t.F j) m) p.n.toNat = sumTo (fun j => t.C i (j + 1) * slt p t (j + 1) m) p.n.toNat := sumTo_congr fun j j0 j1 => by
    unfold slt; rw [if_neg (by omega), show j + 1 - 1 = j by omega]
  rw [this]; unfold slt; rw [if_pos rfl]
theorem DInv.key {p : Lp} {t : Tb} {eps : Int} (h : DInv p t eps) {r s i j : Int} (r0 : 0 ≤ r) (r1 : r ≤ t.nb) (s0 : 0 ≤ s) (s1 : s ≤ t.nf) (i0 : 0 ≤ i) (i1 : i ≤ t.nb) (j0 : 0 ≤ j) (j1 : j ≤ t.nf) (hj : j ≠ s) :
    t.den * (eps * det (p.n.toNat + 1) (upd (upd (slt p t) j (lft p t i)) s (lft p t r))) = t.C r s * t.C i j - t.C i s * t.C r j := by
  have hnf := h.nf; have hn1 := h.n1
  have hN : ((p.n.toNat + 1 : Nat) : Int) = p.n + 1 := by omega
  have hl := det_lin (n := p.n.toNat + 1) (A := upd (upd (slt p t) j (lft p t i)) s (fun m => sumTo (fun k => t.C r k * slt p t k m) (p.n.toNat + 1))) (U := upd (upd (slt p t) j (lft p t i)) s (lft p t r)) (V := upd (upd (slt p t) j (lft p t i)) s (lft p t r)) (r := s) (a := t.den) (b := 0) s0 (by omega)
    (fun m m0 m1 => by rw [gu_self, gu_self, ← h.row r0 r1 m0 (by omega)]; omega) (fun k m _ _ _ _ hk => by rw [gu_ne hk, gu_ne hk]) (fun k m _ _ _ _ hk => by rw [gu_ne hk, gu_ne hk])
  rw [det_sum _ s0 (by omega)] at hl
  have hp := sumTo_pick2 (f := fun k => t.C r k * det (p.n.toNat + 1) (upd (upd (slt p t) j (lft p t i)) s (slt p t k))) (n := p.n.toNat + 1) (s := s) (j := j) s0 (by omega) j0 (by omega) (fun e => hj e.symm) (fun k k0 k1 e1 e2 => by
    have := det_eq0 (n := p.n.toNat + 1) (A := upd (upd (slt p t) j (lft p t i)) s (slt p t k)) (a := k) (b := s) k0 k1 s0 (by omega) e1 (fun m _ _ => by rw [gu_self, gu_ne e1, gu_ne e2])
    rw [this, Int.mul_zero])
  have e1 : upd (upd (slt p t) j (lft p t i)) s (slt p t s) = upd (slt p t) j (lft p t i) := by rw [upd_comm _ _ _ hj, upd_same]
  have e2 : det (p.n.toNat + 1) (upd (upd (slt p t) j (lft p t i)) s (slt p t j)) = -det (p.n.toNat + 1) (upd (slt p t) s (lft p t i)) := by
    rw [upd_set2 _ _ _ hj, det_turn _ j0 (by omega) s0 (by omega) hj, ← upd_set2 _ _ _ hj, upd_same]
  rw [e1, e2, ← h.cell i j i0 i1 j0 j1, ← h.cell i s i0 i1 s0 s1] at hp
  rw [hp] at hl
  rcases h.e with he | he <;> subst he <;> grind
theorem dinv_pdiv {p : Lp} {t : Tb} {eps : Int} (h : DInv p t eps) {row col : Int} (ha : pargs t row col) : pdiv t row col := by
  obtain ⟨hp, r0, r1, c0, c1, hne⟩ := ha
  intro i j i0 i1 j0 j1 hi hj
  have := h.key (r := row + 1) (s := col + 1) (i := i) (j := j) (by omega) (by omega) (by omega) (by omega) i0 i1 j0 j1 hj
  exact Int.tmod_eq_zero_of_dvd ⟨_, this.symm⟩
theorem slt_piv (p : Lp) (t : Tb) {row col : Int} (c0 : 0 ≤ col) (r0 : 0 ≤ row) : slt p (piv t row col) = upd (slt p t) (col + 1) (lft p t (row + 1)) := by
  funext k m
  by_cases e : k = col + 1
  · subst e
    rw [gu_self]; unfold slt lft
    rw [if_neg (by omega), if_neg (by omega), show col + 1 - 1 = col by omega, show row + 1 - 1 = row by omega]
    show frm p (upd t.F col (t.B row) col) m = _
    rw [gu_self]
  · rw [gu_ne e]; unfold slt
    by_cases e0 : k = 0
    · rw [if_pos e0, if_pos e0]
    · rw [if_neg e0, if_neg e0]
      show frm p (upd t.F col (t.B row) (k - 1)) m = _
      rw [gu_ne (by omega)]
theorem lft_piv (p : Lp) (t : Tb) {row col : Int} (c0 : 0 ≤ col) (r0 : 0 ≤ row) : lft p (piv t row col) = upd (lft p t) (row + 1) (slt p t (col + 1)) := by
  funext k m
  by_cases e : k = row + 1
  · subst e
    rw [gu_self]; unfold slt lft
    rw [if_neg (by omega), if_neg (by omega), show col + 1 - 1 = col by omega, show row + 1 - 1 = row by omega]
    show frm p (upd t.B row (t.F col) row) m = _
    rw [gu_self]
  · rw [gu_ne e]; unfold lft
    by_cases e0 : k = 0
    · rw [if_pos e0, if_pos e0]
    · rw [if_neg e0, if_neg e0]
      show frm p (upd t.B row (t.F col) (k - 1)) m = _
      rw [gu_ne (by omega)]
theorem dinv_piv {p : Lp} {t : Tb} {eps : Int} (h : DInv p t eps) {row col : Int} (ha : pargs t row col) : DInv p (piv t row col) (eps * sg (t.C (row + 1) (col + 1))) := by
  have hd := dinv_pdiv h ha
  have hidt := fun m m0 m1 => (idt_piv ha hd _ _ _).1 (h.idt m m0 m1)
  obtain ⟨hp, r0, r1, c0, c1, hne⟩ := ha
  have hnf := h.nf; have hn1 := h.n1; have hd1 := hp.d1
  have hss : sg (t.C (row + 1) (col + 1)) * sg (t.C (row + 1) (col + 1)) = 1 := by rcases sg_cases (t.C (row + 1) (col + 1)) with e | e <;> rw [e] <;> rfl
  refine ⟨?_, hnf, hn1, ?_, ?_, hidt⟩
  · rcases h.e with e | e <;> rcases sg_cases (t.C (row + 1) (col + 1)) with e2 | e2 <;> rw [e, e2] <;> simp
  · rw [piv_den, slt_piv p t c0 r0, ← h.cell (row + 1) (col + 1) (by omega) (by omega) (by omega) (by omega)]
    grind
  · intro i j i0 i1 j0 j1
    have i2 : i ≤ t.nb := i1
    have j2 : j ≤ t.nf := j1
    rw [piv_C, slt_piv p t c0 r0, lft_piv p t c0 r0]
    have e0 : eps * sg (t.C (row + 1) (col + 1)) * (sg (t.C (row + 1) (col + 1)) * pcell t (row + 1) (col + 1) i j) = eps * pcell t (row + 1) (col + 1) i j := by grind
    rw [e0]
    unfold pcell
    by_cases hi : i = row + 1
    · subst hi
      rw [gu_self]
      by_cases hj : j = col + 1
      · subst hj
        rw [if_pos ⟨rfl, rfl⟩, upd_twice, upd_same]; exact h.den
      · rw [if_neg (by omega), if_pos rfl, upd_set2 _ _ _ (fun e => hj e.symm), det_turn _ (by omega) (by omega) j0 (by omega) (fun e => hj e.symm), ← upd_set2 _ _ _ (fun e => hj e.symm), upd_same, ← h.cell _ _ (by omega) (by omega) j0 (by omega)]
        grind
    · rw [gu_ne hi]
      by_cases hj : j = col + 1
      · subst hj
        rw [if_neg (by omega), if_neg hi, if_pos rfl, upd_twice]; exact h.cell _ _ i0 i2 (by omega) (by omega)
      · rw [if_neg (by omega), if_neg hi, if_neg hj]
        have hk := h.key (r := row + 1) (s := col + 1) (i := i) (j := j) (by omega) (by omega) (by omega) (by omega) i0 i2 j0 j2 hj
        rw [← hk, Int.mul_tdiv_cancel_left _ (by omega), upd_comm _ _ _ (fun e => hj e.symm)]
        rcases h.e with e | e <;> rw [e] <;> grind
theorem dinv_start {p : Lp} (hl : LOk p) (hm : 0 ≤ p.m) : DInv p (startT p) 1 := by
  have hn := hl.n1
  have hN : ((p.n.toNat + 1 : Nat) : Int) = p.n + 1 := by omega
  have hs : ∀ k m, 0 ≤ k → k < ((p.n.toNat + 1 : Nat) : Int) → 0 ≤ m → m < ((p.n.toNat + 1 : Nat) : Int) → slt p (startT p) k m = idm k m := fun k m k0 k1 m0 m1 => by
    unfold slt idm
    by_cases e : k = 0
    · subst e; rw [if_pos rfl]
      by_cases e2 : m = 0
      · rw [if_pos e2, if_pos e2.symm]
      · rw [if_neg e2, if_neg (fun h => e2 h.symm)]
    · rw [if_neg e]
      show frm p (k - 1) m = _
      unfold frm
      rw [if_pos (by omega)]
      by_cases e2 : k = m
      · rw [if_pos (by omega), if_pos e2]
      · rw [if_neg (by omega), if_neg e2]
  refine ⟨.inl rfl, rfl, hn, ?_, ?_, ?_⟩
  · rw [det_congr hs, det_id]; rfl
  · intro i j i0 i1 j0 j1
    have i2 : i ≤ p.m := i1
    have j2 : j ≤ p.n := j1
    have e1 : det (p.n.toNat + 1) (upd (slt p (startT p)) j (lft p (startT p) i)) = det (p.n.toNat + 1) (upd idm j (fun m => sumTo (fun k => lft p (startT p) i k * idm k m) (p.n.toNat + 1))) := det_congr fun k m k0 k1 m0 m1 => by
      by_cases e : k = j
      · subst e
        rw [gu_self, gu_self, sumTo_pick (s := m) m0 m1 (fun q q0 q1 hq => by unfold idm; rw [if_neg hq]; omega)]
        unfold idm; rw [if_pos rfl]; omega
      · rw [gu_ne e, gu_ne e]; exact hs k m k0 k1 m0 m1
    have e2 : lft p (startT p) i j = (startT p).C i j := by
      unfold lft
      show _ = (if i = 0 then (if j = 0 then 0 else p.c (j - 1)) else if j = 0 then -p.b (i - 1) else p.A (i - 1) (j - 1))
      by_cases e : i = 0
      · rw [if_pos e, if_pos e]; rfl
      · rw [if_neg e, if_neg e]
        show frm p (p.n + (i - 1)) j = _
        unfold frm
        rw [if_neg (by omega), show p.n + (i - 1) - p.n = i - 1 by omega]
    rw [e1, det_sum _ j0 (by omega), sumTo_pick (s := j) j0 (by omega) (fun q q0 q1 hq => by
      have := det_eq0 (n := p.n.toNat + 1) (A := upd idm j (idm q)) (a := q) (b := j) q0 q1 j0 (by omega) hq (fun m _ _ => by rw [gu_self, gu_ne hq])
      rw [this, Int.mul_zero]), upd_same, det_id, e2]; omega
  · intro m m0 m1
    refine (idt_start hl hm _ _ _).2 ⟨?_, fun i i0 i1 => ?_⟩
    · unfold cst
      by_cases e : m = 0
      · rw [if_pos e]
        have : dotp p.c (fun q => frm p q m) p.n.toNat = sumTo (fun _ => 0) p.n.toNat := sumTo_congr fun q q0 q1 => by
          dsimp only; unfold frm; rw [if_pos (by omega), if_neg (by omega)]; omega
        rw [this, sumTo_zero]
      · rw [if_neg e]
        have : dotp p.c (fun q => frm p q m) p.n.toNat = _ := sumTo_pick (s := m - 1) (by omega) (by omega) (fun q q0 q1 hq => by
          dsimp only; unfold frm; rw [if_pos (by omega), if_neg (by omega)]; omega)
        rw [this]; dsimp only; unfold frm; rw [if_pos (by omega), if_pos (by omega)]; omega
    · have e1 : frm p (p.n + i) m = if m = 0 then -p.b i else p.A i (m - 1) := by
        unfold frm; rw [if_neg (by omega), show p.n + i - p.n = i by omega]
      rw [e1]
      by_cases e : m = 0
      · rw [if_pos e, if_pos e]
        have : dotp (p.A i) (fun q => frm p q m) p.n.toNat = sumTo (fun _ => 0) p.n.toNat := sumTo_congr fun q q0 q1 => by
          dsimp only; unfold frm; rw [if_pos (by omega), if_neg (by omega)]; omega
        rw [this, sumTo_zero]; omega
      · rw [if_neg e, if_neg e]
        have : dotp (p.A i) (fun q => frm p q m) p.n.toNat = _ := sumTo_pick (s := m - 1) (by omega) (by omega) (fun q q0 q1 hq => by
          dsimp only; unfold frm; rw [if_pos (by omega), if_neg (by omega)]; omega)
        rw [this]; dsimp only; unfold frm; rw [if_pos (by omega), if_pos (by omega)]; omega
end Go.Proofs.Gw
