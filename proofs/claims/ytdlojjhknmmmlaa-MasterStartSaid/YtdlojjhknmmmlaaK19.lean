/- Plain laws: the program of patterns of one length each. -/
import Derived.Test.YtdlojjhknmmmlaaGv
import Derived.Test.YtdlojjhknmmmlaaK18
import Derived.Test.YtdlojjhknmmmlaaFo
namespace Go.Proofs.Ytdlojjhknmmmlaa
open Go Go.RowKit Go.Proofs.Gw
set_option linter.unusedVariables false

/-! Diagonal programs: every row that is short has a column of its own. -/
def Dg (t : Tb) : Prop := ∀ r, 0 ≤ r → r < t.nb → t.C (r + 1) 0 < 0 → ∃ s, 0 ≤ s ∧ s < t.nf ∧ 0 < t.C (r + 1) (s + 1) ∧ (∀ j, 0 ≤ j → j < t.nf → j ≠ s → t.C (r + 1) (j + 1) = 0) ∧ ∀ i, 0 ≤ i → i < t.nb → i ≠ r → t.C (i + 1) (s + 1) = 0
/-- How many rows are short. -/
def shorts (t : Tb) : Int := sumTo (fun r => if t.C (r + 1) 0 < 0 then 1 else 0) t.nb.toNat
theorem shorts_pos {t : Tb} {r : Int} (r0 : 0 ≤ r) (r1 : r < t.nb) (h : t.C (r + 1) 0 < 0) : 1 ≤ shorts t := by
  have := sumTo_one (f := fun r => if t.C (r + 1) 0 < 0 then (1 : Int) else 0) (n := t.nb.toNat) r0 (by omega) fun i _ _ => by split <;> omega
  have e : (if t.C (r + 1) 0 < 0 then (1 : Int) else 0) = 1 := if_pos h
  unfold shorts
  omega
theorem dg_entr {t : Tb} {r s : Int} (s0 : 0 ≤ s) (s1 : s < t.nf) (hp : 0 < t.C (r + 1) (s + 1)) (hz : ∀ j, 0 ≤ j → j < t.nf → j ≠ s → t.C (r + 1) (j + 1) = 0) : entr t r t.nf.toNat = s := by
  rcases entr_rng t r t.nf.toNat with h | ⟨h0, h1⟩
  · have := entr_neg t r t.nf.toNat (by omega) s s0 (by omega); omega
  · by_cases e : entr t r t.nf.toNat = s
    · exact e
    · have h2 := (entr_min t r _ h0).1
      have h3 := hz _ h0 (by omega) e
      omega
theorem dg_cell {t : Tb} {r s : Int} (hp : 0 < t.C (r + 1) (s + 1)) {i j : Int} (hi : i ≠ r) (hj : j ≠ s + 1) (hz : t.C (i + 1) (s + 1) = 0) : (piv t r s).C (i + 1) j = (t.C (r + 1) (s + 1) * t.C (i + 1) j).tdiv t.den := by
  rw [piv_C]
  have hs : sg (t.C (r + 1) (s + 1)) = 1 := by unfold sg; rw [if_neg (by omega)]
  rw [hs, Int.one_mul]
  unfold pcell
  rw [if_neg (by omega), if_neg (by omega), if_neg (by omega), hz, Int.zero_mul, Int.sub_zero]
theorem dg_col {t : Tb} {r s : Int} (hp : 0 < t.C (r + 1) (s + 1)) {i : Int} (hi : i ≠ r) : (piv t r s).C (i + 1) (s + 1) = t.C (i + 1) (s + 1) := by
  rw [piv_C]
  have hs : sg (t.C (r + 1) (s + 1)) = 1 := by unfold sg; rw [if_neg (by omega)]
  rw [hs, Int.one_mul]
  unfold pcell
  rw [if_neg (by omega), if_neg (by omega), if_pos rfl]
theorem dg_row {t : Tb} {r s : Int} (hp : 0 < t.C (r + 1) (s + 1)) {j : Int} (hj : j ≠ s + 1) : (piv t r s).C (r + 1) j = -t.C (r + 1) j := by
  rw [piv_C]
  have hs : sg (t.C (r + 1) (s + 1)) = 1 := by unfold sg; rw [if_neg (by omega)]
  rw [hs, Int.one_mul]
  unfold pcell
  rw [if_neg (by omega), if_pos rfl]
theorem dg_piv {t : Tb} (ht : TPrp t) (h : Dg t) {r s : Int} (r0 : 0 ≤ r) (r1 : r < t.nb) (hv : t.C (r + 1) 0 < 0) (s0 : 0 ≤ s) (s1 : s < t.nf) (hp : 0 < t.C (r + 1) (s + 1)) (hrow : ∀ j, 0 ≤ j → j < t.nf → j ≠ s → t.C (r + 1) (j + 1) = 0)
    (hcol : ∀ i, 0 ≤ i → i < t.nb → i ≠ r → t.C (i + 1) (s + 1) = 0) (hd : pdiv t r s) : Dg (piv t r s) ∧ shorts (piv t r s) + 1 ≤ shorts t := by
  have hden := ht.d1
  have hneg : ∀ i, 0 ≤ i → i < t.nb → (piv t r s).C (i + 1) 0 < 0 → i ≠ r ∧ t.C (i + 1) 0 < 0 := fun i i0 i1 hi => by
    have e : i ≠ r := fun e => by
      subst e
      rw [dg_row hp (by omega)] at hi; omega
    refine ⟨e, ?_⟩
    rw [dg_cell hp e (by omega) (hcol i i0 i1 e)] at hi
    rcases Int.lt_or_le (t.C (i + 1) 0) 0 with h1 | h1
    · exact h1
    · have := Int.tdiv_nonneg (Int.mul_nonneg (Int.le_of_lt hp) h1) (show 0 ≤ t.den by omega); omega
  constructor
  · intro i i0 i1 hi
    have i2 : i < t.nb := i1
    obtain ⟨e, hi2⟩ := hneg i i0 i2 hi
    obtain ⟨q, q0, q1, q2, q3, q4⟩ := h i i0 i2 hi2
    have hqs : q ≠ s := fun hh => by
      subst hh
      have := hcol i i0 i2 e; omega
    refine ⟨q, q0, q1, ?_, fun j j0 j1 jq => ?_, fun k k0 k1 kq => ?_⟩
    · have hdv := hd (i + 1) (q + 1) (by omega) (by omega) (by omega) (by have : q < t.nf := q1; omega) (by omega) (by omega)
      rw [hcol i i0 i2 e, Int.zero_mul, Int.sub_zero] at hdv
      rw [dg_cell hp e (by omega) (hcol i i0 i2 e)]
      have hm := Int.mul_pos hp q2
      have h1 := Int.mul_tdiv_add_tmod (t.C (r + 1) (s + 1) * t.C (i + 1) (q + 1)) t.den
      rw [hdv, Int.add_zero] at h1
      rcases Int.lt_or_le 0 ((t.C (r + 1) (s + 1) * t.C (i + 1) (q + 1)).tdiv t.den) with h2 | h2
      · exact h2
      · exfalso
        have h3 := Int.mul_nonneg (show 0 ≤ t.den by omega) (show 0 ≤ -((t.C (r + 1) (s + 1) * t.C (i + 1) (q + 1)).tdiv t.den) by omega)
        rw [Int.mul_neg] at h3; omega
    · have j2 : j < t.nf := j1
      by_cases e2 : j = s
      · subst e2; rw [dg_col hp e]; exact hcol i i0 i2 e
      · rw [dg_cell hp e (by omega) (hcol i i0 i2 e), q3 j j0 j2 jq, Int.mul_zero, Int.zero_tdiv]
    · have k2 : k < t.nb := k1
      by_cases e2 : k = r
      · subst e2
        rw [dg_row hp (by omega), q4 k k0 k2 kq]; rfl
      · rw [dg_cell hp e2 (by omega) (hcol k k0 k2 e2), q4 k k0 k2 kq, Int.mul_zero, Int.zero_tdiv]
  · unfold shorts
    show sumTo (fun i => if (piv t r s).C (i + 1) 0 < 0 then (1 : Int) else 0) t.nb.toNat + 1 ≤ _
    rw [sumTo_split (f := fun i => if (piv t r s).C (i + 1) 0 < 0 then (1 : Int) else 0) (s := r) r0 (by omega), sumTo_split (f := fun i => if t.C (i + 1) 0 < 0 then (1 : Int) else 0) (s := r) r0 (by omega)]
    have e1 : (if (piv t r s).C (r + 1) 0 < 0 then (1 : Int) else 0) = 0 := by
      rw [dg_row hp (by omega), if_neg (by omega)]
    have e2 : (if t.C (r + 1) 0 < 0 then (1 : Int) else 0) = 1 := if_pos hv
    have e3 : sumTo (fun j => if j = r then 0 else if (piv t r s).C (j + 1) 0 < 0 then (1 : Int) else 0) t.nb.toNat ≤ sumTo (fun j => if j = r then 0 else if t.C (j + 1) 0 < 0 then (1 : Int) else 0) t.nb.toNat := sumTo_le fun i i0 i1 => by
      by_cases e : i = r
      · rw [if_pos e, if_pos e]; omega
      · rw [if_neg e, if_neg e]
        by_cases e4 : (piv t r s).C (i + 1) 0 < 0
        · rw [if_pos e4, if_pos (hneg i i0 (by omega) e4).2]; omega
        · rw [if_neg e4]; split <;> omega
    omega
theorem run_dg {p : Lp} {k : Nat} {t u : Tb} {e : Int} (h : Run k t u e) : TPrp t → t.costs → (∃ eps, DInv p t eps) → Dg t → shorts t ≤ k → e = 0 ∨ e = 2 := by
  have leavs : ∀ {t : Tb}, Dg t → 0 ≤ leav t t.nb.toNat → ∃ s, 0 ≤ leav t t.nb.toNat ∧ leav t t.nb.toNat < t.nb ∧ t.C (leav t t.nb.toNat + 1) 0 < 0 ∧ 0 ≤ s ∧ s < t.nf ∧ 0 < t.C (leav t t.nb.toNat + 1) (s + 1) ∧ (∀ j, 0 ≤ j → j < t.nf → j ≠ s → t.C (leav t t.nb.toNat + 1) (j + 1) = 0) ∧ (∀ i, 0 ≤ i → i < t.nb → i ≠ leav t t.nb.toNat → t.C (i + 1) (s + 1) = 0) ∧ entr t (leav t t.nb.toNat) t.nf.toNat = s := fun {t} hg h0 => by
    have h1 := leav_rng t t.nb.toNat
    have h2 := (leav_neg t t.nb.toNat).2 h0
    obtain ⟨s, s0, s1, s2, s3, s4⟩ := hg _ h0 (by omega) h2
    exact ⟨s, h0, by omega, h2, s0, s1, s2, s3, s4, dg_entr s0 s1 s2 s3⟩
  induction h with
  | stop h hd =>
    intro hp hc _ hg _
    rcases h with ⟨h1, _⟩ | ⟨_, _, _, _, _, _, h⟩ | ⟨_, _, h1, h2, _, _, _, h⟩ | ⟨_, _, _, _, _, _, _, h⟩
    · exact absurd ⟨hp, hc⟩ h1
    · exact .inl h
    · exfalso
      obtain ⟨s, _, _, _, s0, _, _, _, _, he⟩ := leavs hg h1
      omega
    · exact .inl h
  | lim h =>
    intro hp hc _ hg hk
    exfalso
    rcases h with ⟨h1, _⟩ | ⟨_, _, _, _, _, h, _⟩ | ⟨_, _, _, _, _, _, _, h⟩ | ⟨_, _, h1, _⟩
    · exact absurd ⟨hp, hc⟩ h1
    · cases h
    · omega
    · obtain ⟨s, a0, a1, a2, _⟩ := leavs hg h1
      have := shorts_pos a0 a1 a2
      omega
  | @bad k t t' r c e h hpv he =>
    rintro hp hc ⟨eps, hi⟩ hg _
    have ha : pargs t r c := by
      rcases h with ⟨h1, _⟩ | ⟨_, _, _, _, _, h, _⟩ | ⟨_, _, _, _, _, _, _, h⟩ | ⟨_, _, h1, h2, h3, h4, _⟩
      · exact absurd ⟨hp, hc⟩ h1
      · cases h
      · omega
      · have b1 := leav_rng t t.nb.toNat
        have b2 := entr_rng t (leav t t.nb.toNat) t.nf.toNat
        have b3 := (entr_min t _ _ h2).1
        subst h3; subst h4
        exact ⟨hp, h1, by omega, h2, by omega, by omega⟩
    have hd := dinv_pdiv hi ha
    rcases hpv with ⟨h1, _⟩ | ⟨_, h1, _⟩ | ⟨_, _, _, _, h1⟩ | ⟨_, _, _, _, h1⟩
    · exact absurd ha h1
    · exact absurd hd h1
    · exact .inr h1
    · exact absurd h1 he
  | @go k t t' u r c e h hpv hr ih =>
    rintro hp hc ⟨eps, hi⟩ hg hk
    rcases hpv with ⟨_, _, h1⟩ | ⟨_, _, _, h1⟩ | ⟨_, _, _, _, h1⟩ | ⟨ha, hdv, hp', rfl, _⟩
    · omega
    · omega
    · omega
    · rcases h with ⟨h1, _⟩ | ⟨_, _, _, _, _, h, _⟩ | ⟨_, _, _, _, _, _, _, h⟩ | ⟨_, _, h1, h2, h3, h4, _⟩
      · exact absurd ⟨hp, hc⟩ h1
      · cases h
      · omega
      · subst h3; subst h4
        obtain ⟨s, a0, a1, a2, s0, s1, s2, s3, s4, he⟩ := leavs hg h1
        rw [he] at ha hdv ih hp'
        have h5 := dg_piv hp hg a0 a1 a2 s0 s1 s2 s3 s4 hdv
        refine ih hp' ?_ ⟨_, dinv_piv hi ha⟩ h5.1 (by omega)
        have := costs_piv hp hc h1 h2
        rwa [he] at this
/-! The patterns of one length each -/
theorem st_mono (p : Prob) : ∀ k : Nat, ∀ i : Nat, i ≤ k → stN p i ≤ stN p k
  | 0, i, h => by
    have : i = 0 := by omega
    subst this; exact Int.le_refl _
  | k + 1, i, h => by
    by_cases e : i = k + 1
    · subst e; exact Int.le_refl _
    · have := st_mono p k i (by omega)
      simp only [stN]; split <;> omega
/-- Where the patterns of Start come from. -/
theorem st_from (p : Prob) : ∀ k : Nat, (∀ j, 0 ≤ j → j < stN p k → ∃ i : Nat, i < k ∧ 0 < p.D i ∧ stN p i = j ∧ stG p k j = oneP p i) ∧ ∀ i : Nat, i < k → 0 < p.D i → stN p i < stN p k ∧ stG p k (stN p i) = oneP p i
  | 0 => ⟨fun j a b => by simp only [stN] at b; omega, fun i h => by omega⟩
  | k + 1 => by
    obtain ⟨h1, h2⟩ := st_from p k
    have hr := (stN_rng p k).1
    simp only [stN, stG]
    by_cases e : 0 < p.D k
    · rw [if_pos e, if_pos e]
      constructor
      · intro j j0 j1
        by_cases e2 : j < stN p k
        · obtain ⟨i, a, b, c, d⟩ := h1 j j0 e2
          exact ⟨i, by omega, b, c, by rw [gsn_lt e2]; exact d⟩
        · exact ⟨k, by omega, e, by omega, gsn_at e2⟩
      · intro i hi hD
        by_cases e2 : i = k
        · subst e2; exact ⟨by omega, gsn_at (by omega)⟩
        · obtain ⟨a, b⟩ := h2 i (by omega) hD
          exact ⟨by omega, by rw [gsn_lt a]; exact b⟩
    · rw [if_neg e, if_neg e]
      constructor
      · intro j j0 j1
        obtain ⟨i, a, b, c, d⟩ := h1 j j0 j1
        exact ⟨i, by omega, b, c, d⟩
      · intro i hi hD
        exact h2 i (by
          by_cases e2 : i = k
          · subst e2; exact absurd hD e
          · omega) hD
theorem dg_start {p : Prob} (hp : p.Ok) : Dg (startT (lpOf p (stN p p.m.toNat) (stG p p.m.toNat))) := by
  have hm := hp.m1
  obtain ⟨h1, h2⟩ := st_from p p.m.toNat
  intro r r0 r1 hr
  have r2 : r < p.m := r1
  have hD : 0 < p.D r := by
    have : (if r + 1 = 0 then (if (0 : Int) = 0 then (0 : Int) else 1) else if (0 : Int) = 0 then -p.D (r + 1 - 1) else stG p p.m.toNat (0 - 1) (r + 1 - 1)) < 0 := hr
    rw [if_neg (by omega), if_pos rfl, show r + 1 - 1 = r by omega] at this; omega
  have cell : ∀ i j, 0 ≤ i → 0 ≤ j → (startT (lpOf p (stN p p.m.toNat) (stG p p.m.toNat))).C (i + 1) (j + 1) = stG p p.m.toNat j i := fun i j i0 j0 => by
    show (if i + 1 = 0 then (if j + 1 = 0 then (0 : Int) else 1) else if j + 1 = 0 then -p.D (i + 1 - 1) else stG p p.m.toNat (j + 1 - 1) (i + 1 - 1)) = _
    rw [if_neg (by omega), if_neg (by omega), show j + 1 - 1 = j by omega, show i + 1 - 1 = i by omega]
  obtain ⟨a, rfl⟩ : ∃ a : Nat, r = a := ⟨r.toNat, by omega⟩
  obtain ⟨h3, h4⟩ := h2 a (by omega) hD
  have hs0 := (stN_rng p a).1
  refine ⟨stN p a, hs0, h3, ?_, fun j j0 j1 hj => ?_, fun i i0 i1 hi => ?_⟩
  · rw [cell _ _ r0 hs0, h4]
    have := (one_prop hp r0 r2).2 hD; omega
  · rw [cell _ _ r0 j0]
    obtain ⟨b, b0, b1, b2, b3⟩ := h1 j j0 j1
    rw [b3]
    exact if_neg fun e => by
      have : a = b := by omega
      subst this; omega
  · rw [cell _ _ i0 hs0, h4]
    exact if_neg fun e => hi e
theorem shorts_le {t : Tb} (h : 0 ≤ t.nb) : shorts t ≤ t.nb := by
  have := sumTo_le (f := fun r => if t.C (r + 1) 0 < 0 then (1 : Int) else 0) (g := fun _ => 1) (n := t.nb.toNat) fun i _ _ => by split <;> omega
  rw [sumTo_const] at this
  unfold shorts; omega
/-- Start's program is solved, or its numbers are too great. -/
theorem start_errs {p : Prob} (hp : p.Ok) (hm6 : p.m ≤ 16) {s : So} {e : Int} {ml : Int → Int} (h : MSolveR p (stN p p.m.toNat) ml (stG p p.m.toNat) s e) (hP : PropL p (stN p p.m.toNat) ml (stG p p.m.toNat)) : e = 0 ∨ e = 2 := by
  have hm := hp.m1; have hd := hp.d
  have hr := stN_rng p p.m.toNat
  rcases h with ⟨h, _⟩ | ⟨_, h, _, _⟩ | ⟨_, _, _, h1, ⟨k, k0, k1, hk⟩, _, _⟩ | ⟨_, _, _, _, _, _, h⟩ | ⟨_, h2, h3, h4, h5⟩
  · exact absurd hP h
  · omega
  · exfalso
    obtain ⟨a, rfl⟩ : ∃ a : Nat, k = a := ⟨k.toNat, by omega⟩
    have := ((st_from p p.m.toNat).2 a (by omega) hk).1
    have := (stN_rng p a).1
    omega
  · exact .inl h
  · have hl := lp_ok hP h4 h3 h2
    rcases h5 with ⟨h, _⟩ | ⟨_, u, hrun, _⟩
    · exact absurd hl h
    · have hq := shorts_le (t := startT (lpOf p (stN p p.m.toNat) (stG p p.m.toNat))) (by show 0 ≤ p.m; omega)
      have hq2 : shorts (startT (lpOf p (stN p p.m.toNat) (stG p p.m.toNat))) ≤ p.m := hq
      exact run_dg hrun (prp_start hl (by show 0 ≤ p.m; omega)).1 (prp_start hl (by show 0 ≤ p.m; omega)).2 ⟨_, dinv_start hl (by show 0 ≤ p.m; omega)⟩ (dg_start hp) (by omega)
/-! The value of Start's program -/
def nP (p : Prob) (i : Int) : Int := min (p.D i) ((p.stock + p.kerf).tdiv (p.L i + p.kerf))
def rN (p : Prob) : Nat → Int × Int
  | 0 => (0, 1)
  | k + 1 => if p.D k = 0 then rN p k else ((rN p k).1 * nP p k + p.D k * (rN p k).2, (rN p k).2 * nP p k)
theorem rN_next (p : Prob) {i : Int} (h : 0 ≤ i) : rN p (i + 1).toNat = if p.D i = 0 then rN p i.toNat else ((rN p i.toNat).1 * nP p i + p.D i * (rN p i.toNat).2, (rN p i.toNat).2 * nP p i) := by
  obtain ⟨k, rfl⟩ := Int.eq_ofNat_of_zero_le h; rw [show ((k : Int) + 1).toNat = k + 1 by omega, Int.toNat_natCast]; rfl
theorem start_val {p : Prob} (hp : p.Ok) {s : So} {ml : Int → Int} (h : MOk p (stN p p.m.toNat) ml (stG p p.m.toNat) s) : (rN p p.m.toNat).1 * s.den = s.val * (rN p p.m.toNat).2 ∧ 1 ≤ (rN p p.m.toNat).2 ∧ 0 ≤ (rN p p.m.toNat).1 := by
  have hm := hp.m1
  have hd := h.d1
  have h2 := (st_from p p.m.toNat).2
  have h1 := (st_from p p.m.toNat).1
  have hn1 : ∀ i, 0 ≤ i → i < p.m → 0 < p.D i → 1 ≤ nP p i := fun i i0 i1 hi => by
    have := (one_prop hp i0 i1).2 hi
    have e : oneP p i i = nP p i := if_pos rfl
    omega
  -- what the rows and the columns say
  have hrow : ∀ a : Nat, (a : Int) < p.m → 0 < p.D a → p.D a * s.den ≤ nP p a * s.X (stN p a) := fun a ha hD => by
    have hr := h.rows a (by omega) ha
    obtain ⟨b1, b2⟩ := h2 a (by omega) hD
    have hs0 := (stN_rng p a).1
    rw [one_sum (x := fun j => stG p p.m.toNat j a * s.X j) (k := stN p a) hs0 (by omega) fun j j0 j1 hj => by
      obtain ⟨b, _, _, c3, c4⟩ := h1 j j0 (by omega)
      show stG p p.m.toNat j a * s.X j = 0
      rw [c4, show oneP p b a = 0 from if_neg fun e => by
        have : a = b := by omega
        subst this; omega, Int.zero_mul]] at hr
    rw [b2, show oneP p a a = nP p a from if_pos rfl] at hr
    exact hr
  have hcol : ∀ a : Nat, (a : Int) < p.m → 0 < p.D a → nP p a * s.Y a ≤ s.den := fun a ha hD => by
    obtain ⟨b1, b2⟩ := h2 a (by omega) hD
    have hs0 := (stN_rng p a).1
    have hc := h.cols (stN p a) hs0 b1
    rw [one_sum (x := fun k => stG p p.m.toNat (stN p a) k * s.Y k) (k := (a : Int)) (by omega) (by omega) fun j j0 j1 hj => by
      show stG p p.m.toNat (stN p a) j * s.Y j = 0
      rw [b2, show oneP p a j = 0 from if_neg hj, Int.zero_mul]] at hc
    rw [b2, show oneP p a a = nP p a from if_pos rfl] at hc
    exact hc
  have key : ∀ k : Nat, (k : Int) ≤ p.m → 1 ≤ (rN p k).2 ∧ 0 ≤ (rN p k).1 ∧ (rN p k).1 * s.den ≤ sumTo s.X (stN p k).toNat * (rN p k).2 ∧ sumTo (fun i => p.D i * s.Y i) k * (rN p k).2 ≤ (rN p k).1 * s.den := fun k => by
    induction k with
    | zero => intro _; simp [rN, stN, sumTo]
    | succ k ih =>
      intro hk
      obtain ⟨i1, i2, i3, i4⟩ := ih (by omega)
      have hdn := dem_nn hp (i := (k : Int)) (by omega) (by omega)
      simp only [rN, stN, sumTo]
      by_cases e : p.D k = 0
      · rw [if_pos e, if_neg (by omega), e, Int.zero_mul, Int.add_zero]; exact ⟨i1, i2, i3, i4⟩
      · have hD : 0 < p.D k := by omega
        rw [if_neg e, if_pos hD]
        have hn := hn1 k (by omega) (by omega) hD
        have hr := hrow k (by omega) hD
        have hc := hcol k (by omega) hD
        have hs0 := (stN_rng p k).1
        have hsum : sumTo s.X (stN p k + 1).toNat = sumTo s.X (stN p k).toNat + s.X (stN p k) := sumTo_next s.X hs0
        refine ⟨?_, ?_, ?_, ?_⟩
        · have := Int.mul_le_mul i1 hn (by omega) (show 0 ≤ (rN p k).2 by omega); omega
        · have a1 := Int.mul_nonneg i2 (show 0 ≤ nP p k by omega)
          have a2 := Int.mul_nonneg (show 0 ≤ p.D k by omega) (show 0 ≤ (rN p k).2 by omega)
          show 0 ≤ (rN p k).1 * nP p k + p.D k * (rN p k).2
          omega
        · rw [hsum]
          have a1 := Int.mul_le_mul_of_nonneg_right i3 (show 0 ≤ nP p k by omega)
          have a2 := Int.mul_le_mul_of_nonneg_right hr (show 0 ≤ (rN p k).2 by omega)
          show ((rN p k).1 * nP p k + p.D k * (rN p k).2) * s.den ≤ (sumTo s.X (stN p k).toNat + s.X (stN p k)) * ((rN p k).2 * nP p k)
          grind
        · have a1 := Int.mul_le_mul_of_nonneg_right i4 (show 0 ≤ nP p k by omega)
          have a2 := Int.mul_le_mul_of_nonneg_right hc (Int.mul_nonneg (show 0 ≤ p.D k by omega) (show 0 ≤ (rN p k).2 by omega))
          show (sumTo (fun i => p.D i * s.Y i) k + p.D k * s.Y k) * ((rN p k).2 * nP p k) ≤ ((rN p k).1 * nP p k + p.D k * (rN p k).2) * s.den
          grind
  obtain ⟨k1, k2, k3, k4⟩ := key p.m.toNat (by omega)
  rw [h.cX] at k3
  rw [h.bY] at k4
  exact ⟨by omega, k1, k2⟩
/-- Equal ratios have the same lowest terms. -/
theorem rat_same {a b c d : Int} (ha : 0 ≤ a) (hb : 1 ≤ b) (hc : 0 ≤ c) (hd : 1 ≤ d) (h : a * d = c * b) : a.tdiv (Int.gcd a b) = c.tdiv (Int.gcd c d) ∧ b.tdiv (Int.gcd a b) = d.tdiv (Int.gcd c d) := by
  have g1 := gcd_pos1 ha hb
  have g2 := gcd_pos1 hc hd
  have key : ∀ {a b : Int}, 1 ≤ (Int.gcd a b : Int) → ∃ q r, a = Int.gcd a b * q ∧ b = Int.gcd a b * r ∧ a.tdiv (Int.gcd a b) = q ∧ b.tdiv (Int.gcd a b) = r := fun {a b} hg => by
    obtain ⟨q, hq⟩ := Int.gcd_dvd_left a b
    obtain ⟨r, hr⟩ := Int.gcd_dvd_right a b
    refine ⟨q, r, hq, hr, ?_, ?_⟩
    · have : ((Int.gcd a b : Int) * q).tdiv (Int.gcd a b) = q := Int.mul_tdiv_cancel_left _ (by omega)
      rwa [← hq] at this
    · have : ((Int.gcd a b : Int) * r).tdiv (Int.gcd a b) = r := Int.mul_tdiv_cancel_left _ (by omega)
      rwa [← hr] at this
  have e1 : (Int.gcd a b : Int) * d = Int.gcd (a * d) (b * d) := by
    rw [Int.gcd_mul_right]; have : ((d.natAbs : Nat) : Int) = d := by omega
    rw [Int.natCast_mul, this]
  have e2 : (Int.gcd c d : Int) * b = Int.gcd (c * b) (d * b) := by
    rw [Int.gcd_mul_right]; have : ((b.natAbs : Nat) : Int) = b := by omega
    rw [Int.natCast_mul, this]
  have e3 : (Int.gcd a b : Int) * d = Int.gcd c d * b := by rw [e1, e2, h, Int.mul_comm b d]
  obtain ⟨q, r, hq, hr, hq2, hr2⟩ := key g1
  obtain ⟨x, y, hx, hy, hx2, hy2⟩ := key g2
  rw [hq2, hr2, hx2, hy2]
  obtain ⟨G, hG⟩ : ∃ G : Int, G = Int.gcd a b := ⟨_, rfl⟩
  obtain ⟨H, hH⟩ : ∃ H : Int, H = Int.gcd c d := ⟨_, rfl⟩
  rw [← hG] at hq hr e3 g1
  rw [← hH] at hx hy e3 g2
  have hry : y = r := by
    have : G * H * y = G * H * r := by
      rw [hy, hr] at e3; grind
    exact Int.eq_of_mul_eq_mul_left (by have := Int.mul_pos (show 0 < G by omega) (show 0 < H by omega); omega) this
  refine ⟨?_, hry.symm⟩
  have hr0 : r ≠ 0 := fun e => by rw [e, Int.mul_zero] at hr; omega
  have : G * H * r * q = G * H * r * x := by
    rw [hq, hx] at h
    have h9 : G * q * d = H * x * b := h
    rw [hy, hr, hry] at h9
    grind
  exact Int.eq_of_mul_eq_mul_left (by
    have h8 := Int.mul_pos (show 0 < G by omega) (show 0 < H by omega)
    intro e
    rcases Int.mul_eq_zero.1 e with e | e
    · omega
    · exact hr0 e) this
theorem start_ok {p : Prob} {n e : Int} {ln : Int → Int} {g : Int → Int → Int} (hok : p.Ok) (h : MStartR p n ln g e) : e = 0 ∧ n = stN p p.m.toNat ∧ ln = stL p p.m.toNat ∧ g = stG p p.m.toNat ∧ PropL p n ln g := by
  rcases h with ⟨h, _⟩ | ⟨_, h1, h2, h3, h4⟩
  · exact absurd hok h
  · refine ⟨h4, h1, h2, h3, ?_⟩
    subst h1; subst h2; subst h3
    exact ⟨hok, (st_inv hok p.m.toNat (by have := hok.m1; omega)).1⟩
theorem MOk.snd {p : Prob} {u : Int} {ml : Int → Int} {mf : Int → Int → Int} {s : So} (h : MOk p u ml mf s) : SoundS s := ⟨⟨h.d1, h.d2⟩, h.v, fun k k0 k1 => h.X k k0 (by rw [← h.n]; exact k1)⟩
/-- Small numbers in the sum. -/
theorem rN_rng {p : Prob} (hp : p.Ok) (hf : ∀ i, 0 ≤ i → i < p.m → p.D i ≤ 30) : ∀ k : Nat, (k : Int) ≤ p.m → 1 ≤ (rN p k).2 ∧ (rN p k).2 ≤ (30 : Int) ^ k ∧ 0 ≤ (rN p k).1 ∧ (rN p k).1 ≤ k * (30 : Int) ^ k
  | 0, _ => by simp [rN]
  | k + 1, hk => by
    obtain ⟨i1, i2, i3, i4⟩ := rN_rng hp hf k (by omega)
    have hdn := dem_nn hp (i := (k : Int)) (by omega) (by omega)
    have h30 := hf k (by omega) (by omega)
    have hP : (1 : Int) ≤ 30 ^ k := by omega
    have eP : (30 : Int) ^ (k + 1) = 30 * 30 ^ k := by rw [Int.pow_succ]; omega
    have hkP : 0 ≤ (k : Int) * 30 ^ k := Int.mul_nonneg (by omega) (by omega)
    have e2 : (((k + 1 : Nat) : Int)) * (30 : Int) ^ (k + 1) = 30 * ((k : Int) * 30 ^ k) + 30 * 30 ^ k := by
      rw [eP, show ((k + 1 : Nat) : Int) = (k : Int) + 1 by omega]; grind
    rw [e2, eP]
    simp only [rN]
    by_cases e : p.D k = 0
    · rw [if_pos e]; exact ⟨i1, by omega, i3, by omega⟩
    · rw [if_neg e]
      have hn : 1 ≤ nP p k := by
        have := (one_prop hp (i := (k : Int)) (by omega) (by omega)).2 (by omega)
        have e : oneP p k k = nP p k := if_pos rfl
        omega
      have hn2 : nP p k ≤ 30 := by unfold nP; omega
      have a1 := mul_rng (a := (rN p k).1) (b := nP p k) (A := (k : Int) * 30 ^ k) (B := 30) i3 i4 (by omega) hn2
      have a2 := mul_rng (a := p.D k) (b := (rN p k).2) (A := 30) (B := 30 ^ k) (by omega) h30 (by omega) i2
      have a3 := mul_rng (a := (rN p k).2) (b := nP p k) (A := 30 ^ k) (B := 30) (by omega) i2 (by omega) hn2
      have a4 := Int.mul_le_mul i1 hn (by omega) (show 0 ≤ (rN p k).2 by omega)
      refine ⟨by show 1 ≤ (rN p k).2 * nP p k; omega, by show (rN p k).2 * nP p k ≤ _; omega, by show 0 ≤ (rN p k).1 * nP p k + p.D k * (rN p k).2; omega, by show (rN p k).1 * nP p k + p.D k * (rN p k).2 ≤ _; omega⟩
theorem pow30 : ∀ k : Nat, k ≤ 6 → (30 : Int) ^ k ≤ 729000000 ∧ (k : Int) * 30 ^ k ≤ 4374000000 := fun k hk => by
  have : k = 0 ∨ k = 1 ∨ k = 2 ∨ k = 3 ∨ k = 4 ∨ k = 5 ∨ k = 6 := by omega
  rcases this with rfl | rfl | rfl | rfl | rfl | rfl | rfl <;> decide
theorem rN_small {p : Prob} (hf : Few28 p) (hp : p.Ok) {i : Int} (i0 : 0 ≤ i) (i1 : i ≤ p.m) : 1 ≤ (rN p i.toNat).2 ∧ (rN p i.toNat).2 ≤ 729000000 ∧ 0 ≤ (rN p i.toNat).1 ∧ (rN p i.toNat).1 ≤ 4374000000 := by
  have hd := hp.d
  obtain ⟨f1, f2, _⟩ := hf.2.2 hp
  have h1 := rN_rng hp (fun i a b => f1 i a (by omega)) i.toNat (by omega)
  have h2 := pow30 i.toNat (by omega)
  omega

end Go.Proofs.Ytdlojjhknmmmlaa
