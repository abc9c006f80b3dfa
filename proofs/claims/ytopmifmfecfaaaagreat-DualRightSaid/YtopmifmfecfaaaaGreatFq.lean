/- What a run of pivots may end with: an optimal tableau, no solution, a number out of range, too many pivots; nothing else. -/
import Derived.Test.YtopmifmfecfaaaaGreatFo
namespace Go.Proofs.Gw
open Go Go.RowKit
set_option linter.unusedVariables false
set_option linter.unusedSimpArgs false

theorem entr_min (t : Tb) (r : Int) : ∀ K : Nat, 0 ≤ entr t r K → 0 < t.C (r + 1) (entr t r K + 1) ∧ ∀ j : Int, 0 ≤ j → j < K → 0 < t.C (r + 1) (j + 1) → t.C 0 (entr t r K + 1) * t.C (r + 1) (j + 1) ≤ t.C 0 (j + 1) * t.C (r + 1) (entr t r K + 1)
  | 0, h => by unfold entr at h; omega
  | k + 1, h => by
    have ih := entr_min t r k
    have hneg := entr_neg t r k
    unfold entr at h ⊢
    by_cases h1 : t.C (r + 1) (k + 1) ≤ 0
    · rw [if_pos h1] at h ⊢
      obtain ⟨a1, a2⟩ := ih h
      refine ⟨a1, fun j j0 j1 hj => ?_⟩
      by_cases e : j = k
      · subst e; omega
      · exact a2 j j0 (by omega) hj
    · rw [if_neg h1] at h ⊢
      by_cases h2 : entr t r k < 0
      · rw [if_pos h2]
        refine ⟨by omega, fun j j0 j1 hj => ?_⟩
        by_cases e : j = k
        · subst e; exact Int.le_refl _
        · have := hneg h2 j j0 (by omega); omega
      · rw [if_neg h2] at h ⊢
        obtain ⟨a1, a2⟩ := ih (by omega)
        by_cases h3 : t.C 0 (k + 1) * t.C (r + 1) (entr t r k + 1) < t.C 0 (entr t r k + 1) * t.C (r + 1) (k + 1) ∨ (t.C 0 (k + 1) * t.C (r + 1) (entr t r k + 1) = t.C 0 (entr t r k + 1) * t.C (r + 1) (k + 1) ∧ t.F k < t.F (entr t r k))
        · rw [if_pos h3]
          refine ⟨by omega, fun j j0 j1 hj => ?_⟩
          by_cases e : j = k
          · subst e; exact Int.le_refl _
          · have b1 := a2 j j0 (by omega) hj
            have b2 : t.C 0 (k + 1) * t.C (r + 1) (entr t r k + 1) ≤ t.C 0 (entr t r k + 1) * t.C (r + 1) (k + 1) := by omega
            have b3 := Int.mul_le_mul_of_nonneg_right b2 (Int.le_of_lt hj)
            have b4 := Int.mul_le_mul_of_nonneg_right b1 (show 0 ≤ t.C (r + 1) (k + 1) by omega)
            refine Int.le_of_mul_le_mul_left ?_ a1
            grind
        · rw [if_neg h3]
          refine ⟨a1, fun j j0 j1 hj => ?_⟩
          by_cases e : j = k
          · subst e; omega
          · exact a2 j j0 (by omega) hj
theorem costs_piv {t : Tb} (hp : TPrp t) (hc : t.costs) {r : Int} (r0 : 0 ≤ r) (h : 0 ≤ entr t r t.nf.toNat) : (piv t r (entr t r t.nf.toNat)).costs := by
  obtain ⟨a1, a2⟩ := entr_min t r _ h
  intro j j1 j2
  have j3 : j ≤ t.nf := j2
  rw [piv_C]
  have hs : sg (t.C (r + 1) (entr t r t.nf.toNat + 1)) = 1 := by unfold sg; rw [if_neg (by omega)]
  rw [hs, Int.one_mul]
  unfold pcell
  rw [if_neg (by omega), if_neg (by omega)]
  have hr := entr_rng t r t.nf.toNat
  split
  · exact hc j j1 j3
  · refine Int.tdiv_nonneg ?_ (by have := hp.d1; omega)
    have c1 := hc j j1 j3
    have c2 := hc (entr t r t.nf.toNat + 1) (by omega) (by omega)
    rcases Int.lt_or_le 0 (t.C (r + 1) j) with h1 | h1
    · have := a2 (j - 1) (by omega) (by omega) (by rw [show j - 1 + 1 = j by omega]; exact h1)
      rw [show j - 1 + 1 = j by omega] at this
      grind
    · have m1 := Int.mul_nonneg (Int.le_of_lt a1) c1
      have m2 := Int.mul_nonneg c2 (show 0 ≤ -t.C (r + 1) j by omega)
      rw [Int.mul_neg] at m2
      omega
theorem run_errs {p : Lp} {k : Nat} {t u : Tb} {e : Int} (h : Run k t u e) : TPrp t → t.costs → (∃ eps, DInv p t eps) → e = 0 ∨ e = 2 ∨ e = 9 ∨ e = 19 := by
  induction h with
  | stop h hd =>
    intro hp hc _
    rcases h with ⟨h1, _⟩ | ⟨_, _, _, _, _, _, h⟩ | ⟨_, _, _, _, _, _, _, h⟩ | ⟨_, _, _, _, _, _, _, h⟩
    · exact absurd ⟨hp, hc⟩ h1
    · exact .inl h
    · exact .inr (.inr (.inr h))
    · exact .inl h
  | lim => intro _ _ _; exact .inr (.inr (.inl rfl))
  | @bad k t t' r c e h hpv he =>
    rintro hp hc ⟨eps, hi⟩
    have ha : pargs t r c := by
      rcases h with ⟨h1, _⟩ | ⟨_, _, _, _, _, h, _⟩ | ⟨_, _, _, _, _, _, _, h⟩ | ⟨_, _, h1, h2, h3, h4, _⟩
      · exact absurd ⟨hp, hc⟩ h1
      · cases h
      · omega
      · have b1 := leav_rng t t.nb.toNat
        have b2 := entr_rng t (leav t t.nb.toNat) t.nf.toNat
        have b3 := (entr_min t _ _ h2).1
        subst h3; subst h4
        exact ⟨hp, h1, by omega, h2, by omega, by omega⟩
    have hd := dinv_pdiv hi ha
    rcases hpv with ⟨h1, _⟩ | ⟨_, h1, _⟩ | ⟨_, _, _, _, h1⟩ | ⟨_, _, _, _, h1⟩
    · exact absurd ha h1
    · exact absurd hd h1
    · exact .inr (.inl h1)
    · exact absurd h1 he
  | @go k t t' u r c e h hpv hr ih =>
    rintro hp hc ⟨eps, hi⟩
    rcases hpv with ⟨_, _, h1⟩ | ⟨_, _, _, h1⟩ | ⟨_, _, _, _, h1⟩ | ⟨ha, _, hp', rfl, _⟩
    · omega
    · omega
    · omega
    · refine ih hp' ?_ ⟨_, dinv_piv hi ha⟩
      rcases h with ⟨h1, _⟩ | ⟨_, _, _, _, _, h, _⟩ | ⟨_, _, _, _, _, _, _, h⟩ | ⟨_, _, h1, h2, h3, h4, _⟩
      · exact absurd ⟨hp, hc⟩ h1
      · cases h
      · omega
      · subst h3; subst h4
        exact costs_piv hp hc h1 h2
theorem prp_start {p : Lp} (hl : LOk p) (hm : 0 ≤ p.m) : TPrp (startT p) ∧ (startT p).costs := by
  have hn := hl.n1; have hn2 := hl.n2; have hm2 := hl.m2
  refine ⟨⟨hn, hn2, hm2, rfl, by show (1 : Int) ≤ 1; decide, by show (1 : Int) ≤ 1073741824; decide, rfl, ?_, ?_⟩, ?_⟩
  · refine PermF.congr (c := fun k => k) ⟨fun i i0 i1 => ⟨i0, i1⟩, fun i j _ _ _ _ e => e⟩ fun k k0 k1 => ?_
    show k = cat p.n (fun j => j) (fun i => p.n + i) k
    unfold cat
    by_cases e : k < p.n
    · rw [if_pos e]
    · rw [if_neg e]; show k = p.n + (k - p.n); omega
  · intro i i0 i1
    refine ⟨rfl, fun j j0 j1 => ?_⟩
    have j2 : j < p.n + 1 := j1
    have i2 : i < p.m + 1 := i1
    show -1073741824 ≤ (if i = 0 then (if j = 0 then 0 else p.c (j - 1)) else if j = 0 then -p.b (i - 1) else p.A (i - 1) (j - 1)) ∧ (if i = 0 then (if j = 0 then 0 else p.c (j - 1)) else if j = 0 then -p.b (i - 1) else p.A (i - 1) (j - 1)) ≤ 1073741824
    by_cases e : i = 0
    · rw [if_pos e]
      by_cases e2 : j = 0
      · rw [if_pos e2]; omega
      · rw [if_neg e2]; have := hl.c (j - 1) (by omega) (by omega); omega
    · rw [if_neg e]
      by_cases e2 : j = 0
      · rw [if_pos e2]; have := hl.b (i - 1) (by omega) (by omega); omega
      · rw [if_neg e2]; have := (hl.rows (i - 1) (by omega) (by omega)).2 (j - 1) (by omega) (by omega); omega
  · intro j j0 j1
    have j2 : j ≤ p.n := j1
    show 0 ≤ (if (0 : Int) = 0 then (if j = 0 then 0 else p.c (j - 1)) else if j = 0 then -p.b (0 - 1) else p.A (0 - 1) (j - 1))
    rw [if_pos rfl, if_neg (by omega)]; exact (hl.c (j - 1) (by omega) (by omega)).1
theorem SolveR.errs {p : Lp} (hl : LOk p) (hm : 0 ≤ p.m) {s : So} {e : Int} (h : SolveR p s e) : e = 0 ∨ e = 2 ∨ e = 9 ∨ e = 19 := by
  rcases h with ⟨h1, _⟩ | ⟨_, u, hr, _⟩
  · exact absurd hl h1
  · exact run_errs hr (prp_start hl hm).1 (prp_start hl hm).2 ⟨_, dinv_start hl hm⟩
end Go.Proofs.Gw
