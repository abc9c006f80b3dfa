/- What pivots keep: the equations of a tableau. And what an end of a run proves. -/
import Derived.Test.YtopmifmfecfaaaaFu
namespace Go.Proofs.Gw
open Go Go.RowKit
set_option linter.unusedVariables false
set_option linter.unusedSimpArgs false

theorem sumTo_split {f : Int → Int} {s : Int} : ∀ {n : Nat}, 0 ≤ s → s < n → sumTo f n = f s + sumTo (fun j => if j = s then 0 else f j) n
  | 0, h0, h1 => by omega
  | n + 1, h0, h1 => by
    rw [sumTo, sumTo]
    by_cases e : s = n
    · have : sumTo (fun j => if j = s then 0 else f j) n = sumTo f n := sumTo_congr fun i i0 i1 => by rw [if_neg (by omega)]
      rw [this, if_pos e.symm, e]; omega
    · have := sumTo_split (f := f) (s := s) (n := n) h0 (by omega)
      rw [this, if_neg (by omega)]; omega
theorem sumTo_lin {f g h : Int → Int} {D A B : Int} : ∀ {n : Nat}, (∀ i, 0 ≤ i → i < (n : Int) → D * h i = A * f i - B * g i) → D * sumTo h n = A * sumTo f n - B * sumTo g n
  | 0, _ => by simp [sumTo]
  | n + 1, hh => by
    have h1 := sumTo_lin (n := n) (fun i i0 i1 => hh i i0 (by omega))
    have h2 := hh n (by omega) (by omega)
    simp only [sumTo]
    grind
def rowv (t : Tb) (k0 : Int) (v : Int → Int) (i : Int) : Int := t.C i 0 * k0 + sumTo (fun j => t.C i (j + 1) * v (t.F j)) t.nf.toNat
def lhsv (t : Tb) (z : Int) (v : Int → Int) (i : Int) : Int := if i = 0 then z else v (t.B (i - 1))
/-- The tableau's equations hold for v, with k0 for the one and z for the cost. -/
def Idt (t : Tb) (k0 z : Int) (v : Int → Int) : Prop := ∀ i, 0 ≤ i → i ≤ t.nb → t.den * lhsv t z v i = rowv t k0 v i
def restv (t : Tb) (k0 : Int) (v : Int → Int) (s i : Int) : Int := t.C i 0 * k0 + sumTo (fun j => if j = s then 0 else t.C i (j + 1) * v (t.F j)) t.nf.toNat
theorem rowv_rest (t : Tb) (k0 : Int) (v : Int → Int) {s : Int} (i : Int) (s0 : 0 ≤ s) (s1 : s < t.nf) : rowv t k0 v i = restv t k0 v s i + t.C i (s + 1) * v (t.F s) := by
  unfold rowv restv
  rw [sumTo_split (s := s) s0 (by omega)]; omega
def sg (p : Int) : Int := if p < 0 then -1 else 1
theorem sg_cases (p : Int) : sg p = 1 ∨ sg p = -1 := by unfold sg; split <;> simp
theorem piv_C (t : Tb) (row col i j : Int) : (piv t row col).C i j = sg (t.C (row + 1) (col + 1)) * pcell t (row + 1) (col + 1) i j := by
  show (if _ then _ else _) = _
  unfold sg; split <;> simp
theorem piv_den (t : Tb) (row col : Int) : (piv t row col).den = sg (t.C (row + 1) (col + 1)) * t.C (row + 1) (col + 1) := by
  show (if _ then _ else _) = _
  unfold sg; split <;> simp
theorem pcell_other {t : Tb} {row col i j : Int} (hd : pdiv t row col) (i0 : 0 ≤ i) (i1 : i ≤ t.nb) (j0 : 0 ≤ j) (j1 : j ≤ t.nf) (hi : i ≠ row + 1) (hj : j ≠ col + 1) :
    t.den * pcell t (row + 1) (col + 1) i j = t.C (row + 1) (col + 1) * t.C i j - t.C i (col + 1) * t.C (row + 1) j := by
  unfold pcell
  rw [if_neg (by omega), if_neg hi, if_neg hj]
  exact Int.mul_tdiv_cancel' (Int.dvd_of_tmod_eq_zero (hd i j i0 i1 j0 j1 hi hj))
theorem idt_piv {t : Tb} {row col : Int} (ha : pargs t row col) (hd : pdiv t row col) (k0 z : Int) (v : Int → Int) : Idt t k0 z v ↔ Idt (piv t row col) k0 z v := by
  obtain ⟨hp, r0, r1, c0, c1, hne⟩ := ha
  have hD := hp.d1
  have hnf : (piv t row col).nf = t.nf := rfl
  have hF1 : (piv t row col).F col = t.B row := by show upd t.F col (t.B row) col = _; rw [upd_self]
  have hF2 : ∀ j, j ≠ col → (piv t row col).F j = t.F j := fun j h => by show upd t.F col (t.B row) j = _; rw [upd_ne _ _ h]
  have hB1 : (piv t row col).B row = t.F col := by show upd t.B row (t.F col) row = _; rw [upd_self]
  have hB2 : ∀ j, j ≠ row → (piv t row col).B j = t.B j := fun j h => by show upd t.B row (t.F col) j = _; rw [upd_ne _ _ h]
  have hrow : ∀ i, rowv t k0 v i = restv t k0 v col i + t.C i (col + 1) * v (t.F col) := fun i => rowv_rest t k0 v i c0 c1
  have hrow' : ∀ i, rowv (piv t row col) k0 v i = restv (piv t row col) k0 v col i + (piv t row col).C i (col + 1) * v (t.B row) := fun i => by
    rw [rowv_rest (piv t row col) k0 v i c0 c1, hF1]
  have hR : restv (piv t row col) k0 v col (row + 1) = -(sg (t.C (row + 1) (col + 1)) * restv t k0 v col (row + 1)) := by
    unfold restv
    have e0 : (piv t row col).C (row + 1) 0 = sg (t.C (row + 1) (col + 1)) * -t.C (row + 1) 0 := by
      rw [piv_C]; unfold pcell; rw [if_neg (by omega), if_pos rfl]
    have e1 := sumTo_lin (D := 1) (A := -sg (t.C (row + 1) (col + 1))) (B := 0) (n := t.nf.toNat) (h := fun j => if j = col then 0 else (piv t row col).C (row + 1) (j + 1) * v ((piv t row col).F j))
      (f := fun j => if j = col then 0 else t.C (row + 1) (j + 1) * v (t.F j)) (g := fun _ => 0) (fun j j0 j1 => by
        by_cases e : j = col
        · simp [e]
        · simp only [if_neg e]
          rw [hF2 j e, piv_C]; unfold pcell; rw [if_neg (by omega), if_pos rfl]; grind)
    rw [e0, hnf]
    grind
  have hQ : ∀ i, 0 ≤ i → i ≤ t.nb → i ≠ row + 1 → t.den * restv (piv t row col) k0 v col i = sg (t.C (row + 1) (col + 1)) * (t.C (row + 1) (col + 1) * restv t k0 v col i - t.C i (col + 1) * restv t k0 v col (row + 1)) := fun i i0 i1 hi => by
    unfold restv
    have e0 : t.den * (piv t row col).C i 0 = sg (t.C (row + 1) (col + 1)) * (t.C (row + 1) (col + 1) * t.C i 0 - t.C i (col + 1) * t.C (row + 1) 0) := by
      have := pcell_other hd i0 i1 (j := 0) (by omega) (by omega) hi (by omega)
      rw [piv_C]; grind
    have e1 := sumTo_lin (D := t.den) (A := sg (t.C (row + 1) (col + 1)) * t.C (row + 1) (col + 1)) (B := sg (t.C (row + 1) (col + 1)) * t.C i (col + 1)) (n := t.nf.toNat) (h := fun j => if j = col then 0 else (piv t row col).C i (j + 1) * v ((piv t row col).F j))
      (f := fun j => if j = col then 0 else t.C i (j + 1) * v (t.F j)) (g := fun j => if j = col then 0 else t.C (row + 1) (j + 1) * v (t.F j)) (fun j j0 j1 => by
        by_cases e : j = col
        · simp [e]
        · simp only [if_neg e]
          have := pcell_other hd i0 i1 (j := j + 1) (by omega) (by omega) hi (by omega)
          rw [hF2 j e, piv_C]; grind)
    rw [hnf]
    grind
  have hr' : (piv t row col).C (row + 1) (col + 1) = sg (t.C (row + 1) (col + 1)) * t.den := by rw [piv_C]; unfold pcell; rw [if_pos ⟨rfl, rfl⟩]
  have hc' : ∀ i, i ≠ row + 1 → (piv t row col).C i (col + 1) = sg (t.C (row + 1) (col + 1)) * t.C i (col + 1) := fun i hi => by rw [piv_C]; unfold pcell; rw [if_neg (by omega), if_neg hi, if_pos rfl]
  have hl1 : lhsv t z v (row + 1) = v (t.B row) := by unfold lhsv; rw [if_neg (by omega)]; congr 2; omega
  have hl1' : lhsv (piv t row col) z v (row + 1) = v (t.F col) := by unfold lhsv; rw [if_neg (by omega), show row + 1 - 1 = row by omega, hB1]
  have hl2 : ∀ i, i ≠ row + 1 → lhsv (piv t row col) z v i = lhsv t z v i := fun i hi => by
    unfold lhsv; split
    · rfl
    · rw [hB2 _ (by omega)]
  have hs := sg_cases (t.C (row + 1) (col + 1))
  have hden := piv_den t row col
  generalize sg (t.C (row + 1) (col + 1)) = σ at *
  constructor
  · intro h i i0 i1
    have er := h (row + 1) (by omega) (by omega)
    rw [hl1, hrow] at er
    by_cases hi : i = row + 1
    · subst hi
      rw [hl1', hrow', hR, hr', hden]
      grind
    · have ei := h i i0 i1
      rw [hrow] at ei
      have q := hQ i i0 i1 hi
      rw [hl2 i hi, hrow', hc' i hi, hden]
      refine Int.eq_of_mul_eq_mul_left (a := t.den) (by omega) ?_
      grind
  · intro h i i0 i1
    have er := h (row + 1) (by omega) (show row + 1 ≤ t.nb by omega)
    rw [hl1', hrow', hR, hr', hden] at er
    have er2 : t.den * v (t.B row) = restv t k0 v col (row + 1) + t.C (row + 1) (col + 1) * v (t.F col) := by
      rcases hs with rfl | rfl <;> grind
    by_cases hi : i = row + 1
    · subst hi
      rw [hl1, hrow]; exact er2
    · have ei := h i i0 i1
      have q := hQ i i0 i1 hi
      rw [hl2 i hi, hrow', hc' i hi, hden] at ei
      rw [hrow]
      refine Int.eq_of_mul_eq_mul_left (a := t.C (row + 1) (col + 1)) hne ?_
      rcases hs with rfl | rfl <;> grind
theorem idt_run {k : Nat} {t u : Tb} {e : Int} (h : Run k t u e) (k0 z : Int) (v : Int → Int) : Idt t k0 z v ↔ Idt u k0 z v := by
  induction h with
  | stop => exact Iff.rfl
  | lim => exact Iff.rfl
  | bad => exact Iff.rfl
  | go h hp hr ih =>
    rcases hp with ⟨_, _, h⟩ | ⟨_, _, _, h⟩ | ⟨_, _, _, _, h⟩ | ⟨ha, hd, _, rfl, _⟩
    · omega
    · omega
    · omega
    · exact (idt_piv ha hd k0 z v).trans ih

theorem idt_start {p : Lp} (hl : LOk p) (hm : 0 ≤ p.m) (k0 z : Int) (v : Int → Int) : Idt (startT p) k0 z v ↔ (z = dotp p.c v p.n.toNat ∧ ∀ i, 0 ≤ i → i < p.m → v (p.n + i) = dotp (p.A i) v p.n.toNat - p.b i * k0) := by
  have hn := hl.n1
  have e00 : (startT p).C 0 0 = 0 := rfl
  have e0 : ∀ j, 0 ≤ j → (startT p).C 0 (j + 1) = p.c j := fun j j0 => by
    show (if (0 : Int) = 0 then (if j + 1 = 0 then 0 else p.c (j + 1 - 1)) else (if j + 1 = 0 then -p.b (0 - 1) else p.A (0 - 1) (j + 1 - 1))) = _
    rw [if_pos rfl, if_neg (by omega), show j + 1 - 1 = j by omega]
  have ei0 : ∀ i, 1 ≤ i → (startT p).C i 0 = -p.b (i - 1) := fun i i0 => by
    show (if i = 0 then (if (0 : Int) = 0 then 0 else p.c (0 - 1)) else (if (0 : Int) = 0 then -p.b (i - 1) else p.A (i - 1) (0 - 1))) = _
    rw [if_neg (by omega), if_pos rfl]
  have ei : ∀ i j, 1 ≤ i → 0 ≤ j → (startT p).C i (j + 1) = p.A (i - 1) j := fun i j i0 j0 => by
    show (if i = 0 then (if j + 1 = 0 then 0 else p.c (j + 1 - 1)) else (if j + 1 = 0 then -p.b (i - 1) else p.A (i - 1) (j + 1 - 1))) = _
    rw [if_neg (by omega), if_neg (by omega), show j + 1 - 1 = j by omega]
  have r0 : rowv (startT p) k0 v 0 = dotp p.c v p.n.toNat := by
    unfold rowv
    rw [e00, Int.zero_mul, Int.zero_add]
    exact sumTo_congr fun j j0 j1 => by rw [e0 j j0]; rfl
  have r1 : ∀ i, 1 ≤ i → rowv (startT p) k0 v i = dotp (p.A (i - 1)) v p.n.toNat - p.b (i - 1) * k0 := fun i i0 => by
    unfold rowv
    have : sumTo (fun j => (startT p).C i (j + 1) * v ((startT p).F j)) (startT p).nf.toNat = dotp (p.A (i - 1)) v p.n.toNat :=
      sumTo_congr fun j j0 j1 => by rw [ei i j i0 j0]; rfl
    rw [this, ei0 i i0, Int.neg_mul]; omega
  have e : (startT p).den = 1 := rfl
  have enb : (startT p).nb = p.m := rfl
  constructor
  · intro h
    refine ⟨?_, fun i i0 i1 => ?_⟩
    · have := h 0 (by omega) (by omega)
      rw [r0] at this
      unfold lhsv at this
      rw [if_pos rfl, e] at this; omega
    · have := h (i + 1) (by omega) (by omega)
      rw [r1 _ (by omega), show i + 1 - 1 = i by omega] at this
      unfold lhsv at this
      have e2 : (startT p).B i = p.n + i := rfl
      rw [if_neg (by omega), show i + 1 - 1 = i by omega, e, e2] at this; omega
  · rintro ⟨h0, h1⟩ i i0 i1
    rw [e, Int.one_mul]
    unfold lhsv
    by_cases hi : i = 0
    · subst hi; rw [if_pos rfl, r0]; exact h0
    · rw [if_neg hi, r1 i (by omega)]
      have e2 : (startT p).B (i - 1) = p.n + (i - 1) := rfl
      rw [e2]; exact h1 (i - 1) (by omega) (by omega)
/-- The values of all variables where the free ones are none. -/
def bas (u : Tb) : Nat → Int → Int
  | 0 => fun _ => 0
  | k + 1 => upd (bas u k) (u.B k) (u.C (k + 1) 0)
theorem bas_zero (u : Tb) {q : Int} : ∀ K : Nat, (∀ i : Int, 0 ≤ i → i < K → u.B i ≠ q) → bas u K q = 0
  | 0, _ => rfl
  | k + 1, h => by
    unfold bas
    rw [upd_ne _ _ (fun e => h k (by omega) (by omega) e.symm)]
    exact bas_zero u k fun i i0 i1 => h i i0 (by omega)
theorem TPrp.injB {t : Tb} (h : TPrp t) {i j : Int} (i0 : 0 ≤ i) (i1 : i < t.nb) (j0 : 0 ≤ j) (j1 : j < t.nb) (e : t.B i = t.B j) : i = j := by
  have hn := h.n1
  have := h.perm.2 (t.nf + i) (t.nf + j) (by omega) (by omega) (by omega) (by omega) (by unfold cat; rw [if_neg (by omega), if_neg (by omega), show t.nf + i - t.nf = i by omega, show t.nf + j - t.nf = j by omega]; exact e)
  omega
theorem TPrp.disj {t : Tb} (h : TPrp t) {i j : Int} (i0 : 0 ≤ i) (i1 : i < t.nb) (j0 : 0 ≤ j) (j1 : j < t.nf) : t.B i ≠ t.F j := fun e => by
  have hn := h.n1
  have := h.perm.2 (t.nf + i) j (by omega) (by omega) (by omega) (by omega) (by unfold cat; rw [if_neg (by omega), if_pos j1, show t.nf + i - t.nf = i by omega]; exact e)
  omega
theorem bas_at {u : Tb} (h : TPrp u) : ∀ (K : Nat), (K : Int) ≤ u.nb → ∀ i : Int, 0 ≤ i → i < K → bas u K (u.B i) = u.C (i + 1) 0
  | 0, _, i, i0, i1 => by omega
  | k + 1, hK, i, i0, i1 => by
    unfold bas
    by_cases e : i = k
    · subst e; rw [upd_self]
    · rw [upd_ne _ _ (fun e2 => e (h.injB i0 (by omega) (by omega) (by omega) e2))]
      exact bas_at h k (by omega) i i0 (by omega)
theorem bas_rng {u : Tb} (h : TPrp u) (hneg : ∀ i : Int, 0 ≤ i → i < u.nb → 0 ≤ u.C (i + 1) 0) (q : Int) : ∀ (K : Nat), (K : Int) ≤ u.nb → 0 ≤ bas u K q ∧ bas u K q ≤ 1073741824
  | 0, _ => by unfold bas; omega
  | k + 1, hK => by
    unfold bas
    by_cases e : q = u.B k
    · rw [← e, upd_self]
      have h1 := hneg k (by omega) (by omega)
      have hn := h.n1
      have h2 := h.cell (i := k + 1) (j := 0) (by omega) (by omega) (by omega) (by omega)
      omega
    · rw [upd_ne _ _ e]; exact bas_rng h hneg q k (by omega)
theorem rdX_bas (u : Tb) {j : Int} (hj : j < u.vars) : ∀ K : Nat, rdX u K j = bas u K j
  | 0 => rfl
  | k + 1 => by
    unfold rdX bas
    by_cases h : u.B k < u.vars
    · rw [if_pos h]
      by_cases e : j = u.B k
      · rw [← e, upd_self, upd_self]
      · rw [upd_ne _ _ e, upd_ne _ _ e]; exact rdX_bas u hj k
    · rw [if_neg h, upd_ne _ _ (by omega)]; exact rdX_bas u hj k
/-- Prices read off a row: g j for the free variable j. -/
def rdG (u : Tb) (y0 g : Int → Int) : Nat → Int → Int
  | 0 => y0
  | k + 1 => if u.vars ≤ u.F k then upd (rdG u y0 g k) (u.F k - u.vars) (g k) else rdG u y0 g k
theorem rdY_rdG (u : Tb) : ∀ K : Nat, rdY u K = rdG u (fun _ => 0) (fun j => u.C 0 (j + 1)) K
  | 0 => rfl
  | k + 1 => by unfold rdY rdG; rw [rdY_rdG u k]
theorem rdG_fresh (u : Tb) (y0 g : Int → Int) {i : Int} : ∀ K : Nat, (∀ k : Int, 0 ≤ k → k < K → u.F k ≠ u.vars + i) → rdG u y0 g K i = y0 i
  | 0, _ => rfl
  | k + 1, h => by
    unfold rdG
    have hk := h k (by omega) (by omega)
    split
    · rw [upd_ne _ _ (by omega)]; exact rdG_fresh u y0 g k fun q q0 q1 => h q q0 (by omega)
    · exact rdG_fresh u y0 g k fun q q0 q1 => h q q0 (by omega)
theorem rdG_rng {u : Tb} {y0 g : Int → Int} {A : Int} (q : Int) (h0 : 0 ≤ y0 q ∧ y0 q ≤ A) : ∀ K : Nat, (∀ k : Int, 0 ≤ k → k < K → 0 ≤ g k ∧ g k ≤ A) → 0 ≤ rdG u y0 g K q ∧ rdG u y0 g K q ≤ A
  | 0, _ => h0
  | k + 1, h => by
    unfold rdG
    split
    · by_cases e : q = u.F k - u.vars
      · rw [← e, upd_self]; exact h k (by omega) (by omega)
      · rw [upd_ne _ _ e]; exact rdG_rng q h0 k fun q q0 q1 => h q q0 (by omega)
    · exact rdG_rng q h0 k fun q q0 q1 => h q q0 (by omega)
theorem dotp_upd (w y : Int → Int) {i a : Int} {m : Nat} (i0 : 0 ≤ i) (i1 : i < m) : dotp w (upd y i a) m = dotp w y m + w i * (a - y i) := by
  unfold dotp
  rw [sumTo_split (s := i) i0 i1, sumTo_split (f := fun k => w k * y k) (s := i) i0 i1]
  have : sumTo (fun j => if j = i then 0 else w j * upd y i a j) m = sumTo (fun j => if j = i then 0 else w j * y j) m := sumTo_congr fun j j0 j1 => by
    by_cases e : j = i
    · rw [if_pos e, if_pos e]
    · rw [if_neg e, if_neg e, upd_ne _ _ e]
  rw [this, upd_self]; grind
theorem rdG_dot {u : Tb} (h : TPrp u) (hm : 0 ≤ u.nb) {y0 g : Int → Int} (w : Int → Int) (hf : ∀ k : Int, 0 ≤ k → k < u.nf → u.vars ≤ u.F k → y0 (u.F k - u.vars) = 0) : ∀ K : Nat, (K : Int) ≤ u.nf →
    dotp w (rdG u y0 g K) u.nb.toNat = dotp w y0 u.nb.toNat + sumTo (fun k => if u.vars ≤ u.F k then g k * w (u.F k - u.vars) else 0) K
  | 0, _ => by simp [rdG, sumTo]
  | k + 1, hK => by
    have ih := rdG_dot h hm w hf (g := g) k (by omega)
    have hr := h.rngF (i := k) (by omega) (by omega) hm
    have hv := h.v
    unfold rdG sumTo
    by_cases hc : u.vars ≤ u.F k
    · rw [if_pos hc, if_pos hc, dotp_upd _ _ (by omega) (by omega), ih]
      have : rdG u y0 g k (u.F k - u.vars) = 0 := by
        rw [rdG_fresh u y0 g k fun q q0 q1 e => by
          have := h.injF (i := q) (j := k) q0 (by omega) (by omega) (by omega) hm (by omega); omega]
        exact hf k (by omega) (by omega) hc
      rw [this]; grind
    · rw [if_neg hc, if_neg hc, ih]; omega
theorem dotp_comm (f g : Int → Int) (n : Nat) : dotp f g n = dotp g f n := sumTo_congr fun i _ _ => Int.mul_comm _ _
theorem dotp_ind (f : Int → Int) {q : Int} {n : Nat} (q0 : 0 ≤ q) (q1 : q < n) : dotp f (fun k => if k = q then 1 else 0) n = f q := by
  unfold dotp
  rw [sumTo_split (s := q) q0 q1]
  show f q * (if q = q then 1 else 0) + _ = _
  rw [if_pos rfl, Int.mul_one]
  have : sumTo (fun j => if j = q then 0 else f j * (fun k => if k = q then 1 else 0) j) n = sumTo (fun _ => 0) n := sumTo_congr fun j _ _ => by split <;> simp_all
  rw [this, sumTo_zero]; omega
/-- The values of all variables at x, with k0 for the one. -/
def allv (p : Lp) (x : Int → Int) (k0 q : Int) : Int := if q < p.n then x q else dotp (p.A (q - p.n)) x p.n.toNat - p.b (q - p.n) * k0
theorem idt_all {p : Lp} (hl : LOk p) (hm : 0 ≤ p.m) {k : Nat} {u : Tb} {e : Int} (h : Run k (startT p) u e) (x : Int → Int) (k0 : Int) : Idt u k0 (dotp p.c x p.n.toNat) (allv p x k0) := by
  refine (idt_run h k0 _ _).1 ((idt_start hl hm k0 _ _).2 ⟨?_, fun i i0 i1 => ?_⟩)
  · exact sumTo_congr fun j j0 j1 => by unfold allv; rw [if_pos (by omega)]
  · have : dotp (p.A i) (allv p x k0) p.n.toNat = dotp (p.A i) x p.n.toNat := sumTo_congr fun j j0 j1 => by unfold allv; rw [if_pos (by omega)]
    rw [this]; unfold allv; rw [if_neg (by omega), show p.n + i - p.n = i by omega]
/-- A row of the tableau, with the free variables that are surpluses gathered. -/
theorem rowv_split {p : Lp} {u : Tb} (hp : TPrp u) (hm : 0 ≤ u.nb) (hv : u.vars = p.n) (x : Int → Int) (k0 i : Int) {y0 g : Int → Int} (hg : ∀ k : Int, 0 ≤ k → k < u.nf → g k = u.C i (k + 1)) (hf : ∀ k : Int, 0 ≤ k → k < u.nf → u.vars ≤ u.F k → y0 (u.F k - u.vars) = 0) :
    rowv u k0 (allv p x k0) i = u.C i 0 * k0 + sumTo (fun k => if u.vars ≤ u.F k then 0 else g k * x (u.F k)) u.nf.toNat +
      (dotp (fun i => dotp (p.A i) x p.n.toNat - p.b i * k0) (rdG u y0 g u.nf.toNat) u.nb.toNat - dotp (fun i => dotp (p.A i) x p.n.toNat - p.b i * k0) y0 u.nb.toNat) := by
  have hn := hp.n1
  have h1 := rdG_dot hp hm (y0 := y0) (g := g) (fun i => dotp (p.A i) x p.n.toNat - p.b i * k0) hf u.nf.toNat (by omega)
  rw [h1]
  unfold rowv
  have h2 : sumTo (fun j => u.C i (j + 1) * allv p x k0 (u.F j)) u.nf.toNat = sumTo (fun k => (if u.vars ≤ u.F k then 0 else g k * x (u.F k)) + (if u.vars ≤ u.F k then g k * (dotp (p.A (u.F k - u.vars)) x p.n.toNat - p.b (u.F k - u.vars) * k0) else 0)) u.nf.toNat :=
    sumTo_congr fun j j0 j1 => by
      unfold allv
      rw [hg j j0 (by omega)]
      by_cases hc : u.vars ≤ u.F j
      · rw [if_neg (by omega), if_pos hc, if_pos hc, hv]; omega
      · rw [if_pos (by omega), if_neg hc, if_neg hc]; omega
  rw [h2, sumTo_add]; omega
/-- An optimal end proves itself. -/
theorem run_chk {p : Lp} (hl : LOk p) (hm : 0 ≤ p.m) {k : Nat} {u : Tb} (h : Run k (startT p) u 0) : ChkS p (readS u) := by
  obtain ⟨hp, hco, hlv, _⟩ := h.fin (.inl rfl)
  have hd := h.dims
  have d1 : u.nb = p.m := by rw [hd.1]; rfl
  have d2 : u.nf = p.n := by rw [hd.2.1]; rfl
  have d3 : u.vars = p.n := by rw [hd.2.2.2]; rfl
  have hn := hl.n1
  have lr := leav_rng u u.nb.toNat
  have hneg : ∀ i : Int, 0 ≤ i → i < u.nb → 0 ≤ u.C (i + 1) 0 := fun i i0 i1 => (leav_neg u u.nb.toNat).1 (by have := hlv rfl; omega) i i0 (by omega)
  have hg0 : ∀ k : Int, 0 ≤ k → k < u.nf → 0 ≤ u.C 0 (k + 1) ∧ u.C 0 (k + 1) ≤ 1073741824 := fun k k0 k1 => ⟨hco (k + 1) (by omega) (by omega), (hp.cell (i := 0) (by omega) (by omega) (by omega) (by omega)).2⟩
  -- the solution
  have hid : Idt u u.den (u.C 0 0) (bas u u.nb.toNat) := fun i i0 i1 => by
    have hz : sumTo (fun j => u.C i (j + 1) * bas u u.nb.toNat (u.F j)) u.nf.toNat = 0 := by
      have : sumTo (fun j => u.C i (j + 1) * bas u u.nb.toNat (u.F j)) u.nf.toNat = sumTo (fun _ => 0) u.nf.toNat := sumTo_congr fun j j0 j1 => by
        rw [bas_zero u _ fun q q0 q1 => hp.disj q0 (by omega) j0 (by omega)]; omega
      rw [this, sumTo_zero]
    unfold rowv lhsv
    rw [hz]
    by_cases hi : i = 0
    · subst hi; rw [if_pos rfl]; grind
    · rw [if_neg hi, bas_at hp u.nb.toNat (by omega) (i - 1) (by omega) (by omega), show i - 1 + 1 = i by omega]; grind
  obtain ⟨hz, hs⟩ := (idt_start hl hm _ _ _).1 ((idt_run h _ _ _).2 hid)
  have hX : ∀ j, 0 ≤ j → j < p.n → rdX u u.nb.toNat j = bas u u.nb.toNat j := fun j j0 j1 => rdX_bas u (by omega) _
  have dX : ∀ f : Int → Int, dotp f (rdX u u.nb.toNat) p.n.toNat = dotp f (bas u u.nb.toNat) p.n.toNat := fun f => sumTo_congr fun j j0 j1 => by rw [hX j j0 (by omega)]
  -- the prices
  have hY : (readS u).Y = rdG u (fun _ => 0) (fun j => u.C 0 (j + 1)) u.nf.toNat := by show rdY u _ = _; rw [rdY_rdG]
  have hdot0 : ∀ w : Int → Int, dotp w (fun _ => 0) u.nb.toNat = 0 := fun w => by
    have : dotp w (fun _ => 0) u.nb.toNat = sumTo (fun _ => 0) u.nb.toNat := sumTo_congr fun j _ _ => by simp
    rw [this, sumTo_zero]
  have key : ∀ (x : Int → Int) (k0 : Int), u.den * dotp p.c x p.n.toNat = u.C 0 0 * k0 + sumTo (fun k => if u.vars ≤ u.F k then 0 else u.C 0 (k + 1) * x (u.F k)) u.nf.toNat + dotp (fun i => dotp (p.A i) x p.n.toNat - p.b i * k0) (readS u).Y u.nb.toNat := fun x k0 => by
    have h1 := idt_all hl hm h x k0 0 (by omega) (by omega)
    rw [rowv_split hp (by omega) d3 x k0 0 (y0 := fun _ => 0) (g := fun j => u.C 0 (j + 1)) (fun _ _ _ => rfl) (fun _ _ _ _ => rfl), hdot0, ← hY] at h1
    unfold lhsv at h1
    rw [if_pos rfl] at h1
    omega
  refine ⟨hl, hp.d1, hp.d2, hp.cell (i := 0) (by omega) (by omega) (by omega) (by omega), d2, d1, fun j j0 j1 => ?_, fun i i0 i1 => ?_, fun i i0 i1 => ?_, fun j j0 j1 => ?_, ?_, ?_⟩
  · show 0 ≤ rdX u u.nb.toNat j ∧ rdX u u.nb.toNat j ≤ _
    rw [hX j j0 j1]; exact bas_rng hp hneg j _ (by omega)
  · rw [hY]; exact rdG_rng i (by omega) _ fun k k0 k1 => hg0 k k0 (by omega)
  · show p.b i * u.den ≤ dotp (p.A i) (rdX u u.nb.toNat) _
    rw [dX]
    have h1 := hs i i0 i1
    have h2 := (bas_rng hp hneg (p.n + i) u.nb.toNat (by omega)).1
    omega
  · have h1 := key (fun k => if k = j then 1 else 0) 0
    have h2 : 0 ≤ sumTo (fun k => if u.vars ≤ u.F k then 0 else u.C 0 (k + 1) * (if u.F k = j then 1 else 0)) u.nf.toNat := sumTo_nonneg fun k k0 k1 => by
      have := (hg0 k k0 (by omega)).1
      split
      · omega
      · split <;> omega
    have h3 : dotp (fun i => dotp (p.A i) (fun k => if k = j then 1 else 0) p.n.toNat - p.b i * 0) (readS u).Y u.nb.toNat = wgt p.A (readS u).Y p.m.toNat j := by
      rw [d1]; exact sumTo_congr fun i i0 i1 => by
        show (dotp (p.A i) (fun k => if k = j then 1 else 0) p.n.toNat - p.b i * 0) * _ = _
        rw [dotp_ind _ j0 (by omega)]; simp
    rw [dotp_ind _ j0 (by omega), h3] at h1
    show _ ≤ p.c j * u.den
    rw [Int.mul_comm (p.c j)]; omega
  · show dotp p.c (rdX u u.nb.toNat) _ = u.C 0 0
    rw [dX, ← hz]
  · show dotp p.b (readS u).Y _ = u.C 0 0
    have h1 := key (fun _ => 0) 1
    have z1 : ∀ f : Int → Int, dotp f (fun _ => 0) p.n.toNat = 0 := fun f => by
      have : dotp f (fun _ => 0) p.n.toNat = sumTo (fun _ => 0) p.n.toNat := sumTo_congr fun j _ _ => by simp
      rw [this, sumTo_zero]
    have z2 : sumTo (fun k => if u.vars ≤ u.F k then 0 else u.C 0 (k + 1) * (fun _ => (0 : Int)) (u.F k)) u.nf.toNat = 0 := by
      have : sumTo (fun k => if u.vars ≤ u.F k then 0 else u.C 0 (k + 1) * (fun _ => (0 : Int)) (u.F k)) u.nf.toNat = sumTo (fun _ => 0) u.nf.toNat := sumTo_congr fun j _ _ => by split <;> simp
      rw [this, sumTo_zero]
    have z3 : dotp (fun i => dotp (p.A i) (fun _ => 0) p.n.toNat - p.b i * 1) (readS u).Y u.nb.toNat = -dotp p.b (readS u).Y p.m.toNat := by
      have := sumTo_lin (D := 1) (A := -1) (B := 0) (n := p.m.toNat) (h := fun i => (dotp (p.A i) (fun _ => 0) p.n.toNat - p.b i * 1) * (readS u).Y i) (f := fun i => p.b i * (readS u).Y i) (g := fun _ => 0) (fun i i0 i1 => by rw [z1]; grind)
      rw [d1]
      show sumTo (fun i => (dotp (p.A i) (fun _ => 0) p.n.toNat - p.b i * 1) * (readS u).Y i) p.m.toNat = -sumTo (fun i => p.b i * (readS u).Y i) p.m.toNat
      omega
    rw [z1, z2, z3] at h1
    omega

theorem entr_neg (t : Tb) (r : Int) : ∀ K : Nat, entr t r K < 0 → ∀ j : Int, 0 ≤ j → j < K → t.C (r + 1) (j + 1) ≤ 0
  | 0, _, j, j0, j1 => by omega
  | k + 1, h, j, j0, j1 => by
    unfold entr at h
    split at h
    · rename_i hc
      by_cases e : j = k
      · rw [e]; exact hc
      · exact entr_neg t r k h j j0 (by omega)
    · split at h
      · omega
      · split at h <;> omega
/-- Numbers that prove that there is no solution. -/
structure RefS (p : Lp) (y : Int → Int) : Prop where
  rng : ∀ i, 0 ≤ i → i < p.m → 0 ≤ y i ∧ y i ≤ 1073741824
  cols : ∀ j, 0 ≤ j → j < p.n → wgt p.A y p.m.toNat j ≤ 0
  pos : 0 < dotp p.b y p.m.toNat
def ref0 (u : Tb) (r : Int) : Int → Int := if u.vars ≤ u.B r then upd (fun _ => 0) (u.B r - u.vars) u.den else fun _ => 0
def refY (u : Tb) (r : Int) : Int → Int := rdG u (ref0 u r) (fun j => -u.C (r + 1) (j + 1)) u.nf.toNat
theorem run_ref {p : Lp} (hl : LOk p) (hm : 0 ≤ p.m) {k : Nat} {u : Tb} (h : Run k (startT p) u 19) : RefS p (refY u (leav u u.nb.toNat)) := by
  obtain ⟨hp, hco, _, hf⟩ := h.fin (.inr rfl)
  obtain ⟨hr, he⟩ := hf rfl
  have hd := h.dims
  have d1 : u.nb = p.m := by rw [hd.1]; rfl
  have d2 : u.nf = p.n := by rw [hd.2.1]; rfl
  have d3 : u.vars = p.n := by rw [hd.2.2.2]; rfl
  have hn := hl.n1
  have lr := leav_rng u u.nb.toNat
  have hneg := (leav_neg u u.nb.toNat).2 hr
  have hcol := entr_neg u (leav u u.nb.toNat) u.nf.toNat he
  generalize leav u u.nb.toNat = r at *
  have hd1 := hp.d1; have hd2 := hp.d2
  have hg : ∀ k : Int, 0 ≤ k → k < u.nf → 0 ≤ -u.C (r + 1) (k + 1) ∧ -u.C (r + 1) (k + 1) ≤ 1073741824 := fun k k0 k1 => ⟨by have := hcol k k0 (by omega); omega, by have := (hp.cell (i := r + 1) (j := k + 1) (by omega) (by omega) (by omega) (by omega)).1; omega⟩
  have hrB := hp.rngB (i := r) (by omega) (by omega)
  have hv := hp.v
  have h0 : ∀ i, 0 ≤ ref0 u r i ∧ ref0 u r i ≤ 1073741824 := fun i => by
    unfold ref0; split
    · by_cases e : i = u.B r - u.vars
      · rw [← e, upd_self]; omega
      · rw [upd_ne _ _ e]; exact ⟨Int.le_refl 0, show (0 : Int) ≤ 1073741824 by decide⟩
    · exact ⟨Int.le_refl 0, show (0 : Int) ≤ 1073741824 by decide⟩
  have hfr : ∀ k : Int, 0 ≤ k → k < u.nf → u.vars ≤ u.F k → ref0 u r (u.F k - u.vars) = 0 := fun k k0 k1 hk => by
    unfold ref0; split
    · exact upd_ne _ _ (by have := hp.disj (i := r) (j := k) (by omega) (by omega) k0 k1; omega)
    · rfl
  have hdot0 : ∀ w : Int → Int, dotp w (ref0 u r) u.nb.toNat = if u.vars ≤ u.B r then u.den * w (u.B r - u.vars) else 0 := fun w => by
    have z : dotp w (fun _ => 0) u.nb.toNat = 0 := by
      have : dotp w (fun _ => 0) u.nb.toNat = sumTo (fun _ => 0) u.nb.toNat := sumTo_congr fun j _ _ => by simp
      rw [this, sumTo_zero]
    unfold ref0; split
    · rw [dotp_upd _ _ (by omega) (by omega), z]; grind
    · exact z
  have key : ∀ (x : Int → Int) (k0 : Int), (if u.vars ≤ u.B r then 0 else u.den * x (u.B r)) + sumTo (fun k => if u.vars ≤ u.F k then 0 else -u.C (r + 1) (k + 1) * x (u.F k)) u.nf.toNat + dotp (fun i => dotp (p.A i) x p.n.toNat - p.b i * k0) (refY u r) u.nb.toNat = u.C (r + 1) 0 * k0 := fun x k0 => by
    have h1 := idt_all hl hm h x k0 (r + 1) (by omega) (by omega)
    have h2 := rdG_dot hp (by omega) (y0 := ref0 u r) (g := fun j => -u.C (r + 1) (j + 1)) (fun i => dotp (p.A i) x p.n.toNat - p.b i * k0) hfr u.nf.toNat (by omega)
    have h3 : sumTo (fun j => u.C (r + 1) (j + 1) * allv p x k0 (u.F j)) u.nf.toNat = -(sumTo (fun k => if u.vars ≤ u.F k then 0 else -u.C (r + 1) (k + 1) * x (u.F k)) u.nf.toNat) - sumTo (fun k => if u.vars ≤ u.F k then -u.C (r + 1) (k + 1) * (dotp (p.A (u.F k - u.vars)) x p.n.toNat - p.b (u.F k - u.vars) * k0) else 0) u.nf.toNat := by
      have := sumTo_lin (D := 1) (A := -1) (B := 1) (n := u.nf.toNat) (h := fun j => u.C (r + 1) (j + 1) * allv p x k0 (u.F j)) (f := fun k => if u.vars ≤ u.F k then 0 else -u.C (r + 1) (k + 1) * x (u.F k)) (g := fun k => if u.vars ≤ u.F k then -u.C (r + 1) (k + 1) * (dotp (p.A (u.F k - u.vars)) x p.n.toNat - p.b (u.F k - u.vars) * k0) else 0) (fun j j0 j1 => by
        unfold allv
        by_cases hc : u.vars ≤ u.F j
        · rw [if_neg (by omega), if_pos hc, if_pos hc, d3]; grind
        · rw [if_pos (by omega), if_neg hc, if_neg hc]; grind)
      omega
    unfold refY
    rw [h2, hdot0]
    unfold rowv lhsv at h1
    rw [h3, if_neg (by omega), show r + 1 - 1 = r by omega] at h1
    by_cases hc : u.vars ≤ u.B r
    · rw [if_pos hc, if_pos hc]
      have : allv p x k0 (u.B r) = dotp (p.A (u.B r - u.vars)) x p.n.toNat - p.b (u.B r - u.vars) * k0 := by unfold allv; rw [if_neg (by omega), d3]
      rw [this] at h1; omega
    · rw [if_neg hc, if_neg hc]
      have : allv p x k0 (u.B r) = x (u.B r) := by unfold allv; rw [if_pos (by omega)]
      rw [this] at h1; omega
  refine ⟨fun i i0 i1 => rdG_rng i (h0 i) _ fun k k0 k1 => hg k k0 (by omega), fun j j0 j1 => ?_, ?_⟩
  · have h1 := key (fun k => if k = j then 1 else 0) 0
    have h2 : 0 ≤ sumTo (fun k => if u.vars ≤ u.F k then 0 else -u.C (r + 1) (k + 1) * (if u.F k = j then 1 else 0)) u.nf.toNat := sumTo_nonneg fun k k0 k1 => by
      have := (hg k k0 (by omega)).1
      split
      · omega
      · split <;> omega
    have h3 : dotp (fun i => dotp (p.A i) (fun k => if k = j then 1 else 0) p.n.toNat - p.b i * 0) (refY u r) u.nb.toNat = wgt p.A (refY u r) p.m.toNat j := by
      rw [d1]; exact sumTo_congr fun i i0 i1 => by
        show (dotp (p.A i) (fun k => if k = j then 1 else 0) p.n.toNat - p.b i * 0) * _ = _
        rw [dotp_ind _ j0 (by omega)]; simp
    have h4 : 0 ≤ (if u.vars ≤ u.B r then 0 else u.den * (if u.B r = j then 1 else 0)) := by
      split
      · omega
      · split <;> omega
    rw [h3] at h1
    omega
  · have h1 := key (fun _ => 0) 1
    have z1 : ∀ f : Int → Int, dotp f (fun _ => 0) p.n.toNat = 0 := fun f => by
      have : dotp f (fun _ => 0) p.n.toNat = sumTo (fun _ => 0) p.n.toNat := sumTo_congr fun j _ _ => by simp
      rw [this, sumTo_zero]
    have z2 : sumTo (fun k => if u.vars ≤ u.F k then 0 else -u.C (r + 1) (k + 1) * (fun _ => (0 : Int)) (u.F k)) u.nf.toNat = 0 := by
      have : sumTo (fun k => if u.vars ≤ u.F k then 0 else -u.C (r + 1) (k + 1) * (fun _ => (0 : Int)) (u.F k)) u.nf.toNat = sumTo (fun _ => 0) u.nf.toNat := sumTo_congr fun j _ _ => by split <;> simp
      rw [this, sumTo_zero]
    have z3 : dotp (fun i => dotp (p.A i) (fun _ => 0) p.n.toNat - p.b i * 1) (refY u r) u.nb.toNat = -dotp p.b (refY u r) p.m.toNat := by
      have := sumTo_lin (D := 1) (A := -1) (B := 0) (n := p.m.toNat) (h := fun i => (dotp (p.A i) (fun _ => 0) p.n.toNat - p.b i * 1) * (refY u r) i) (f := fun i => p.b i * (refY u r) i) (g := fun _ => 0) (fun i i0 i1 => by rw [z1]; grind)
      rw [d1]
      show sumTo (fun i => (dotp (p.A i) (fun _ => 0) p.n.toNat - p.b i * 1) * (refY u r) i) p.m.toNat = -sumTo (fun i => p.b i * (refY u r) i) p.m.toNat
      omega
    have z4 : (if u.vars ≤ u.B r then 0 else u.den * (fun _ => (0 : Int)) (u.B r)) = 0 := by split <;> simp
    rw [z2, z3, z4] at h1
    omega
theorem SolveR.chk {p : Lp} (hm : 0 ≤ p.m) {s : So} {e : Int} (h : SolveR p s e) (he : e = 0) : ChkS p s := by
  rcases h with ⟨_, _, h⟩ | ⟨hl, u, hr, ⟨h, _⟩ | ⟨_, rfl⟩⟩
  · omega
  · exact absurd he h
  · subst he; exact run_chk hl hm hr
theorem SolveR.none {p : Lp} (hm : 0 ≤ p.m) {s : So} {e : Int} (h : SolveR p s e) (he : e = 19) : ∃ y, RefS p y := by
  rcases h with ⟨_, _, h⟩ | ⟨hl, u, hr, _⟩
  · omega
  · subst he; exact ⟨_, run_ref hl hm hr⟩
theorem SolveR.zero {p : Lp} {s : So} {e : Int} (h : SolveR p s e) (he : e ≠ 0) : s = So.zero := by
  rcases h with ⟨_, h, _⟩ | ⟨hl, u, hr, ⟨_, h⟩ | ⟨h, _⟩⟩
  · exact h
  · exact h
  · exact absurd h he
/-! Weak duality -/
theorem weak {A : Int → Int → Int} {x y b c : Int → Int} {n m : Nat} (hx : ∀ j : Int, 0 ≤ j → j < n → 0 ≤ x j) (hy : ∀ i : Int, 0 ≤ i → i < m → 0 ≤ y i)
    (hc : ∀ j : Int, 0 ≤ j → j < n → wgt A y m j ≤ c j) (hb : ∀ i : Int, 0 ≤ i → i < m → b i ≤ dotp (A i) x n) : dotp b y m ≤ dotp c x n := by
  have h1 : dotp b y m ≤ sumTo (fun i => dotp (A i) x n * y i) m := sumTo_le fun i i0 i1 => Int.mul_le_mul_of_nonneg_right (hb i i0 i1) (hy i i0 i1)
  have h2 : sumTo (fun i => dotp (A i) x n * y i) m = sumTo (fun j => wgt A y m j * x j) n := by
    have e1 : sumTo (fun i => dotp (A i) x n * y i) m = sumTo (fun i => sumTo (fun j => A i j * x j * y i) n) m := sumTo_congr fun i _ _ => (sumTo_mul _ _ _).symm
    have e2 : sumTo (fun j => wgt A y m j * x j) n = sumTo (fun j => sumTo (fun i => A i j * x j * y i) m) n := sumTo_congr fun j _ _ => by
      have := sumTo_mul (fun i => A i j * y i) (x j) m
      unfold wgt
      rw [← this]
      exact sumTo_congr fun i _ _ => by grind
    rw [e1, e2]
    exact (sumTo_comm (fun i k => A k i * x i * y k) n m)
  have h3 : sumTo (fun j => wgt A y m j * x j) n ≤ dotp c x n := sumTo_le fun j j0 j1 => Int.mul_le_mul_of_nonneg_right (hc j j0 j1) (hx j j0 j1)
  omega
theorem dotp_scale (f g : Int → Int) (a : Int) (n : Nat) : dotp (fun k => f k * a) g n = dotp f g n * a := by
  unfold dotp
  rw [← sumTo_mul]
  exact sumTo_congr fun i _ _ => by grind
/-- Two problems with the same rows: the prices of one bound the value of the other. -/
theorem chk_weak {p q : Lp} {s t : So} (hs : ChkS p s) (ht : ChkS q t) (hn : q.n = p.n) (hmm : q.m = p.m) (hm : 0 ≤ p.m) (hA : ∀ i j, 0 ≤ i → i < p.m → 0 ≤ j → j < p.n → q.A i j = p.A i j) (hc : ∀ j, 0 ≤ j → j < p.n → q.c j = p.c j) :
    dotp q.b s.Y p.m.toNat * t.den ≤ t.val * s.den := by
  have hn1 := hs.ok.n1
  have h := weak (A := p.A) (x := t.X) (y := s.Y) (b := fun i => q.b i * t.den) (c := fun j => p.c j * s.den) (n := p.n.toNat) (m := p.m.toNat) (fun j j0 j1 => (ht.X j j0 (by omega)).1) (fun i i0 i1 => (hs.Y i i0 (by omega)).1)
    (fun j j0 j1 => hs.cols j j0 (by omega)) (fun i i0 i1 => by
      have := ht.rows i i0 (by omega)
      have e : dotp (q.A i) t.X q.n.toNat = dotp (p.A i) t.X p.n.toNat := by rw [hn]; exact sumTo_congr fun j j0 j1 => by rw [hA i j i0 (by omega) j0 (by omega)]
      rw [e] at this; exact this)
  rw [dotp_scale, dotp_scale] at h
  have e : dotp p.c t.X p.n.toNat = t.val := by rw [← ht.cX, hn]; exact sumTo_congr fun j j0 j1 => by rw [hc j j0 (by omega)]
  rw [e] at h; exact h
theorem chk_best {p : Lp} {s : So} (hs : ChkS p s) (hm : 0 ≤ p.m) {x : Int → Int} (hx : ∀ j, 0 ≤ j → j < p.n → 0 ≤ x j) (hb : ∀ i, 0 ≤ i → i < p.m → p.b i ≤ dotp (p.A i) x p.n.toNat) : s.val ≤ dotp p.c x p.n.toNat * s.den := by
  have hn1 := hs.ok.n1
  have h := weak (A := p.A) (x := x) (y := s.Y) (b := p.b) (c := fun j => p.c j * s.den) (n := p.n.toNat) (m := p.m.toNat) (fun j j0 j1 => hx j j0 (by omega)) (fun i i0 i1 => (hs.Y i i0 (by omega)).1)
    (fun j j0 j1 => hs.cols j j0 (by omega)) (fun i i0 i1 => hb i i0 (by omega))
  rw [dotp_scale, hs.bY] at h; exact h
theorem ref_none {p : Lp} {y : Int → Int} (hr : RefS p y) (hn : 0 ≤ p.n) (hm : 0 ≤ p.m) {x : Int → Int} {a : Int} (ha : 0 ≤ a) (hx : ∀ j, 0 ≤ j → j < p.n → 0 ≤ x j) (hb : ∀ i, 0 ≤ i → i < p.m → p.b i * a ≤ dotp (p.A i) x p.n.toNat) : a = 0 := by
  have h := weak (A := p.A) (x := x) (y := y) (b := fun i => p.b i * a) (c := fun _ => 0) (n := p.n.toNat) (m := p.m.toNat) (fun j j0 j1 => hx j j0 (by omega)) (fun i i0 i1 => (hr.rng i i0 (by omega)).1)
    (fun j j0 j1 => hr.cols j j0 (by omega)) (fun i i0 i1 => hb i i0 (by omega))
  have z : dotp (fun _ => 0) x p.n.toNat = 0 := by
    have : dotp (fun _ => 0) x p.n.toNat = sumTo (fun _ => 0) p.n.toNat := sumTo_congr fun j _ _ => by simp
    rw [this, sumTo_zero]
  rw [dotp_scale, z] at h
  have hp := hr.pos
  rcases Int.lt_or_eq_of_le ha with h1 | h1
  · have := Int.mul_pos hp h1; omega
  · exact h1.symm
/-! One more of a row -/
def Lp.more (p : Lp) (k : Int) : Lp := ⟨p.n, p.m, p.k, p.c, p.ln, p.A, upd p.b k (p.b k + 1)⟩
theorem price_law {p : Lp} {k : Int} (k0 : 0 ≤ k) (k1 : k < p.m) {s t : So} (hs : ChkS p s) (ht : ChkS (p.more k) t) : (s.val + s.Y k) * t.den ≤ t.val * s.den := by
  have h := chk_weak hs ht rfl rfl (by omega) (fun _ _ _ _ _ _ => rfl) (fun _ _ _ => rfl)
  have e : dotp (p.more k).b s.Y p.m.toNat = s.val + s.Y k := by
    show dotp (upd p.b k (p.b k + 1)) s.Y _ = _
    rw [dotp_comm, dotp_upd _ _ k0 (by omega), dotp_comm, hs.bY]; grind
  rw [e] at h; exact h
theorem price_none {p : Lp} {k : Int} (hm : 0 ≤ p.m) {s t : So} {e : Int} (hs : SolveR p s 19) (ht : ChkS (p.more k) t) : False := by
  obtain ⟨y, hy⟩ := hs.none hm rfl
  have hn1 := ht.ok.n1
  have := ref_none hy (show 0 ≤ p.n from by have : (p.more k).n = p.n := rfl; omega) hm (x := t.X) (a := t.den) (by have := ht.d1; omega) (fun j j0 j1 => (ht.X j j0 j1).1) (fun i i0 i1 => by
    have h1 := ht.rows i i0 i1
    have h2 : p.b i * t.den ≤ (p.more k).b i * t.den := Int.mul_le_mul_of_nonneg_right (by
      show p.b i ≤ upd p.b k (p.b k + 1) i
      by_cases e : i = k
      · rw [e, upd_self]; omega
      · rw [upd_ne _ _ e]; omega) (by have := ht.d1; omega)
    exact Int.le_trans h2 h1)
  have := ht.d1; omega
end Go.Proofs.Gw
