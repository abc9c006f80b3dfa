/- The walk of whole. -/
import Derived.Test.YtelfplepnodbgaaGc
import Derived.Test.YtelfplepnodbgaaX14
namespace Go.Proofs.Ytelfplepnodbgaa
open Go Go.RowKit Go.Proofs.Gw
set_option linter.unusedVariables false

theorem it_3 : Try.prog.underlying 3 = some (.int .i64) := by kernel_rfl
theorem pl_5 : plainT Try.prog 5 = true := by kernel_rfl
theorem sl_45 : sliceT Try.prog 45 = some (5, 1) := by kernel_rfl
theorem so_5 : (Try.prog.underlying 5).isSome = true := by kernel_rfl
/-- Whole numbers, none negative, that obey a tableau. -/
def Wh (t : Tb) (z : Int) (v : Int → Int) : Prop := Idt t 1 z v ∧ ∀ q, 0 ≤ q → q < t.nf + t.nb → 0 ≤ v q
theorem TPrp.rngF {t : Tb} (h : TPrp t) {j : Int} (j0 : 0 ≤ j) (j1 : j < t.nf) (hb : 0 ≤ t.nb) : 0 ≤ t.F j ∧ t.F j < t.nf + t.nb := by
  have := h.perm.1 j (by omega) (by omega)
  unfold cat at this; rw [if_pos j1] at this; exact this
theorem wh_opt {t u : Tb} (ho : OptR t u 0) {z : Int} {v : Int → Int} (h : Wh t z v) : Wh u z v :=
  ⟨(idt_opt ho 1 z v).1 h.1, fun q q0 q1 => h.2 q q0 (by have := ho.prp.2; have := ho.dims.1; omega)⟩
theorem wh_val {u : Tb} (hp : TPrp u) (hc : u.costs) (h0 : 0 ≤ u.nb) {z : Int} {v : Int → Int} (h : Wh u z v) : u.C 0 0 ≤ z * u.den := by
  have h1 := h.1 0 (by omega) h0
  unfold lhsv rowv at h1
  rw [if_pos rfl] at h1
  have h2 : 0 ≤ sumTo (fun j => u.C 0 (j + 1) * v (u.F j)) u.nf.toNat := sumTo_nonneg fun j j0 j1 => Int.mul_nonneg (hc (j + 1) (by omega) (by omega)) (h.2 _ (hp.rngF j0 (by omega) h0).1 (hp.rngF j0 (by omega) h0).2)
  rw [Int.mul_comm z]; omega
/-- The number that a cut's new variable takes, times the denominator. -/
def cutS (u : Tb) (r : Int) (v : Int → Int) : Int := cutF u r 0 + sumTo (fun j => cutF u r (j + 1) * v (u.F j)) u.nf.toNat
theorem cut_whole {u : Tb} (hp : TPrp u) (h0 : 0 ≤ u.nb) {r z : Int} {v : Int → Int} (r0 : 0 ≤ r) (r1 : r < u.nb) (h : Wh u z v) : u.den ∣ cutS u r v ∧ 0 ≤ cutS u r v := by
  have hd := hp.d1
  have h1 := h.1 (r + 1) (by omega) (by omega)
  unfold lhsv rowv at h1
  rw [if_neg (by omega), show r + 1 - 1 = r by omega] at h1
  have e0 : cutF u r 0 = -(u.C (r + 1) 0) + u.den * (u.C (r + 1) 0 / u.den) := by
    unfold cutF; rw [if_pos rfl, rmd_emod hd]
    have := Int.mul_ediv_add_emod (u.C (r + 1) 0) u.den; omega
  have e1 : sumTo (fun j => cutF u r (j + 1) * v (u.F j)) u.nf.toNat = -1 * sumTo (fun j => u.C (r + 1) (j + 1) * v (u.F j)) u.nf.toNat - u.den * sumTo (fun j => (-(u.C (r + 1) (j + 1))) / u.den * v (u.F j)) u.nf.toNat := by
    have := sumTo_lin (D := 1) (A := -1) (B := u.den) (n := u.nf.toNat) (h := fun j => cutF u r (j + 1) * v (u.F j)) (f := fun j => u.C (r + 1) (j + 1) * v (u.F j)) (g := fun j => (-(u.C (r + 1) (j + 1))) / u.den * v (u.F j)) (fun j j0 j1 => by
      show 1 * (cutF u r (j + 1) * v (u.F j)) = _
      unfold cutF; rw [if_neg (by omega), rmd_emod hd]
      have := Int.mul_ediv_add_emod (-(u.C (r + 1) (j + 1))) u.den
      have e : (-(u.C (r + 1) (j + 1))) % u.den = -(u.C (r + 1) (j + 1)) - u.den * ((-(u.C (r + 1) (j + 1))) / u.den) := by omega
      rw [e]; grind)
    omega
  have hdvd : u.den ∣ cutS u r v := ⟨u.C (r + 1) 0 / u.den - sumTo (fun j => (-(u.C (r + 1) (j + 1))) / u.den * v (u.F j)) u.nf.toNat - v (u.B r), by
    unfold cutS; rw [e0, e1]; grind⟩
  refine ⟨hdvd, ?_⟩
  obtain ⟨k, hk⟩ := hdvd
  have h2 : 0 ≤ sumTo (fun j => cutF u r (j + 1) * v (u.F j)) u.nf.toNat := sumTo_nonneg fun j j0 j1 => Int.mul_nonneg (by unfold cutF; rw [if_neg (by omega)]; exact (rmd_rng hd).1) (h.2 _ (hp.rngF j0 (by omega) h0).1 (hp.rngF j0 (by omega) h0).2)
  have h3 : -u.den < cutF u r 0 := by unfold cutF; rw [if_pos rfl]; have := rmd_rng (a := u.C (r + 1) 0) hd; omega
  have h4 : -u.den < u.den * k := by rw [← hk]; unfold cutS; omega
  rw [hk]
  by_cases hk0 : 0 ≤ k
  · exact Int.mul_nonneg (by omega) hk0
  · have := Int.mul_le_mul_of_nonneg_left (show k ≤ -1 by omega) (show 0 ≤ u.den by omega); omega
/-- Whole numbers obey a cut, too. -/
theorem wh_cut {u : Tb} (hp : TPrp u) (h0 : 0 ≤ u.nb) {r z : Int} {v : Int → Int} (r0 : 0 ≤ r) (r1 : r < u.nb) (h : Wh u z v) : Wh (addT u r) z (upd v (u.nf + u.nb) (cutS u r v / u.den)) := by
  have hd := hp.d1
  have hc := hp.c
  have hn := hp.n1
  obtain ⟨hdv, hnn⟩ := cut_whole hp h0 r0 r1 h
  have hv : ∀ q, 0 ≤ q → q < u.nf + u.nb → upd v (u.nf + u.nb) (cutS u r v / u.den) q = v q := fun q q0 q1 => upd_ne _ _ (by omega)
  have hF : ∀ j, 0 ≤ j → j < u.nf → upd v (u.nf + u.nb) (cutS u r v / u.den) (u.F j) = v (u.F j) := fun j j0 j1 => hv _ (hp.rngF j0 j1 h0).1 (hp.rngF j0 j1 h0).2
  refine ⟨fun i i0 i1 => ?_, fun q q0 q1 => ?_⟩
  · have i2 : i ≤ u.nb + 1 := i1
    show u.den * (if i = 0 then z else upd v (u.nf + u.nb) (cutS u r v / u.den) (gsn u.B u.nb (u.nb + u.nf) (i - 1))) = gsn u.C u.nc (cutF u r) i 0 * 1 + sumTo (fun j => gsn u.C u.nc (cutF u r) i (j + 1) * upd v (u.nf + u.nb) (cutS u r v / u.den) (u.F j)) u.nf.toNat
    have es : ∀ g : Int → Int, sumTo (fun j => g (j + 1) * upd v (u.nf + u.nb) (cutS u r v / u.den) (u.F j)) u.nf.toNat = sumTo (fun j => g (j + 1) * v (u.F j)) u.nf.toNat := fun g => sumTo_congr fun j j0 j1 => by rw [hF j j0 (by omega)]
    rw [es]
    by_cases hi : i ≤ u.nb
    · have h1 := h.1 i i0 hi
      unfold lhsv rowv at h1
      rw [show gsn u.C u.nc (cutF u r) i = u.C i from gsn_lt (by omega), ← h1]
      by_cases hz : i = 0
      · rw [if_pos hz, if_pos hz]
      · rw [if_neg hz, if_neg hz, gsn_lt (by omega), hv _ (hp.rngB (by omega) (by omega)).1 (hp.rngB (by omega) (by omega)).2]
    · rw [if_neg (by omega), gsn_at (by omega), gsn_at (by omega), show u.nb + u.nf = u.nf + u.nb by omega, upd_self, Int.mul_ediv_cancel' hdv]
      unfold cutS; omega
  · have q2 : q < u.nf + (u.nb + 1) := q1
    by_cases hq : q < u.nf + u.nb
    · rw [hv q q0 hq]; exact h.2 q q0 hq
    · rw [show q = u.nf + u.nb by omega, upd_self]; exact Int.ediv_nonneg hnn (by omega)
theorem wh_rn {p : Lp} (hm : 0 ≤ p.m) {us : List Tb} {t : Tb} {e : Int} (hr : Rn p us t e) (he : e = 0) {z : Int} {v : Int → Int} (h : Wh (startT p) z v) : ∃ v', Wh t z v' := by
  induction hr with
  | start hs => rcases hs with ⟨_, _, h9⟩ | ⟨_, rfl, _⟩; exact absurd he (by omega); exact ⟨v, h⟩
  | @cut us0 t0 u0 _ _ hr ho hp hf ha ih =>
    obtain ⟨v', h'⟩ := ih rfl
    obtain ⟨rfl, hq, g0, g1, _⟩ := AddR.ok ha he
    have := hr.len rfl hm
    have := ho.prp.2
    exact ⟨_, wh_cut hq (by omega) g0 g1 (wh_opt ho h')⟩
theorem rn_no19 {p : Lp} {us : List Tb} {t : Tb} {e : Int} (hr : Rn p us t e) : e ≠ 19 := by
  cases hr with
  | start hs => rcases hs with ⟨_, _, h9⟩ | ⟨_, _, h9⟩ <;> omega
  | cut h ho hp hf ha => rcases ha with ⟨_, _, h⟩ | ⟨_, _, _, h⟩ | ⟨_, _, _, _, _, h⟩ | ⟨_, _, _, _, _, _, h⟩ | ⟨_, _, _, _, _, _, h⟩ <;> omega
/-- A tableau that whole numbers obey has a solution. -/
theorem wh_none {t u : Tb} (ho : OptR t u 19) (h0 : 0 ≤ t.nb) {z : Int} {v : Int → Int} (h : Wh t z v) : False := by
  obtain ⟨u', f, hr, ⟨_, he, _⟩ | ⟨_, he, _⟩⟩ := ho
  · exact absurd he (by decide)
  · subst he
    obtain ⟨hp, _, _, h3⟩ := hr.fin (.inr rfl)
    obtain ⟨h4, h5⟩ := h3 rfl
    have hdm := hr.dims
    have hrg := leav_rng u' u'.nb.toNat
    have hneg := (leav_neg u' u'.nb.toNat).2 h4
    have h1 := ((idt_run hr 1 z v).1 h.1) (leav u' u'.nb.toNat + 1) (by omega) (by omega)
    unfold lhsv rowv at h1
    rw [if_neg (by omega), show ∀ x : Int, x + 1 - 1 = x from fun x => by omega] at h1
    have hall : ∀ q, 0 ≤ q → q < u'.nf + u'.nb → 0 ≤ v q := fun q q0 q1 => h.2 q q0 (by omega)
    have hB := hp.rngB h4 (by omega)
    have h6 : 0 ≤ u'.den * v (u'.B (leav u' u'.nb.toNat)) := Int.mul_nonneg (by have := hp.d1; omega) (hall _ hB.1 hB.2)
    have h7 : sumTo (fun j => u'.C (leav u' u'.nb.toNat + 1) (j + 1) * v (u'.F j)) u'.nf.toNat ≤ sumTo (fun _ => 0) u'.nf.toNat := sumTo_le fun j j0 j1 => by
      have a := entr_neg u' (leav u' u'.nb.toNat) u'.nf.toNat h5 j j0 j1
      have b := hp.rngF j0 (by omega) (by omega)
      exact Int.mul_nonpos_of_nonpos_of_nonneg a (hall _ b.1 b.2)
    rw [sumTo_zero] at h7
    omega
theorem wh_start {p : Lp} (hl : LOk p) (hm : 0 ≤ p.m) {y : Int → Int} (hy : ∀ j, 0 ≤ j → j < p.n → 0 ≤ y j) (hb : ∀ i, 0 ≤ i → i < p.m → p.b i ≤ dotp (p.A i) y p.n.toNat) : Wh (startT p) (dotp p.c y p.n.toNat) (allv p y 1) := by
  refine ⟨(idt_start hl hm 1 _ _).2 ⟨?_, fun i i0 i1 => ?_⟩, fun q q0 q1 => ?_⟩
  · exact sumTo_congr fun j j0 j1 => by unfold allv; rw [if_pos (by omega)]
  · have : dotp (p.A i) (allv p y 1) p.n.toNat = dotp (p.A i) y p.n.toNat := sumTo_congr fun j j0 j1 => by unfold allv; rw [if_pos (by omega)]
    rw [this]; unfold allv; rw [if_neg (by omega), show p.n + i - p.n = i by omega]
  · have q2 : q < p.n + p.m := q1
    unfold allv
    split
    · exact hy q q0 ‹_›
    · have := hb (q - p.n) (by omega) (by omega); omega
/-- A value, rounded up. -/
def cvC (u : Tb) : Int := (u.C 0 0 + u.den - 1) / u.den
theorem cvC_eq {u : Tb} (hd : 1 ≤ u.den) (h0 : 0 ≤ u.C 0 0) : cvP u = cvC u := by rw [cv_eq hd h0]; unfold cvR cvC; exact Int.tdiv_eq_ediv_of_nonneg (by omega)
theorem cvC_le {u : Tb} (hd : 1 ≤ u.den) {z : Int} (h : u.C 0 0 ≤ z * u.den) : cvC u ≤ z := by
  unfold cvC
  have : (u.C 0 0 + u.den - 1) / u.den < z + 1 := Int.ediv_lt_of_lt_mul (by omega) (by rw [Int.add_mul]; omega)
  omega
theorem cvC_ge {u : Tb} (hd : 1 ≤ u.den) : u.C 0 0 ≤ cvC u * u.den := by
  unfold cvC
  have h1 := Int.mul_ediv_add_emod (u.C 0 0 + u.den - 1) u.den
  have h2 := Int.emod_lt_of_pos (u.C 0 0 + u.den - 1) (show 0 < u.den by omega)
  rw [Int.mul_comm]; omega
theorem cvC_at {u : Tb} (hd : 1 ≤ u.den) {z : Int} (h : u.C 0 0 = z * u.den) : cvC u = z := by
  have h1 := cvC_le hd (show u.C 0 0 ≤ z * u.den by omega)
  have h2 := cvC_ge hd
  rw [h] at h2
  have := Int.le_of_mul_le_mul_right h2 (show 0 < u.den by omega)
  omega
/-- A cut does not lower the value. -/
theorem cut_up {u0 u : Tb} {r : Int} (hp0 : TPrp u0) (hc : u0.costs) (h0 : 0 ≤ u0.nb) (hb : u0.nb < 16) (ho : OptR (addT u0 r) u 0) : cvC u0 ≤ cvC u := by
  have hp := ho.prp.1
  have hd := hp.d1
  have hd0 := hp0.d1
  have hnb : u.nb = u0.nb + 1 := ho.prp.2
  have h1 := idt_add hp0 ((idt_opt ho u.den (u.C 0 0) (bas u u.nb.toNat)).2 (idt_bas hp (by omega))) 0 (by omega) h0
  unfold lhsv rowv at h1
  rw [if_pos rfl] at h1
  have h2 : 0 ≤ sumTo (fun j => u0.C 0 (j + 1) * bas u u.nb.toNat (u0.F j)) u0.nf.toNat := sumTo_nonneg fun j j0 j1 => Int.mul_nonneg (hc (j + 1) (by omega) (by omega)) (bas_nn ho _)
  refine cvC_le hd0 ?_
  have h3 := cvC_ge hd
  have h4 : u0.C 0 0 * u.den ≤ cvC u * u0.den * u.den := by
    have h5 := Int.mul_le_mul_of_nonneg_left h3 (show 0 ≤ u0.den by omega)
    have h6 : u0.den * (cvC u * u.den) = cvC u * u0.den * u.den := by grind
    omega
  exact Int.le_of_mul_le_mul_right h4 (by omega)
/-- What a list of rounds gives: bounds that do not decrease. -/
theorem rn_up {p : Lp} (hm : 0 ≤ p.m) {us : List Tb} {t : Tb} {e : Int} (hr : Rn p us t e) (he : e = 0) {u : Tb} (ho : OptR t u 0) :
    (∀ k : Nat, (h : k < us.length) → cvC us[k] ≤ cvC u) ∧ ∀ k : Nat, (h : k + 1 < us.length) → cvC us[k] ≤ cvC us[k+1] := by
  induction hr generalizing u with
  | start => exact ⟨fun k h => by simp at h, fun k h => by simp at h⟩
  | @cut us0 t0 u0 _ _ hr ho0 hp hf ha ih =>
    obtain ⟨rfl, hq, g0, g1, g2⟩ := AddR.ok ha he
    obtain ⟨i1, i2⟩ := ih rfl ho0
    have hl := hr.len rfl hm
    have hl2 := ho0.prp.2
    have hs := cut_up hq ho0.fin.1 (by omega) g2 ho
    refine ⟨fun k h => ?_, fun k h => ?_⟩
    · rw [List.length_append, List.length_singleton] at h
      by_cases hk : k < us0.length
      · rw [List.getElem_append_left hk]; exact Int.le_trans (i1 k hk) hs
      · rw [List.getElem_append_right (by omega)]; simpa using hs
    · rw [List.length_append, List.length_singleton] at h
      have hk : k < us0.length := by omega
      rw [List.getElem_append_left hk]
      by_cases hk2 : k + 1 < us0.length
      · rw [List.getElem_append_left hk2]; exact i2 k hk2
      · rw [List.getElem_append_right (by omega)]; simpa using i1 k hk
theorem rn_le {p : Lp} (hm : 0 ≤ p.m) {us : List Tb} {t : Tb} {e : Int} (hr : Rn p us t e) (he : e = 0) {u : Tb} (ho : OptR t u 0) {z : Int} {v : Int → Int} (h : Wh (startT p) z v) : cvC u ≤ z := by
  obtain ⟨v', h'⟩ := wh_rn hm hr he h
  subst he
  have hl := hr.len rfl hm
  have hl2 := ho.prp.2
  exact cvC_le ho.prp.1.d1 (wh_val ho.prp.1 ho.fin.1 (by omega) (wh_opt ho h'))
theorem bdF_at {p : Lp} (hm : 0 ≤ p.m) {us : List Tb} {t u : Tb} (hr : Rn p us t 0) (ho : OptR t u 0) : (∀ k : Nat, (h : k < us.length) → bdF cvP (us ++ [u]) k = cvC us[k]) ∧ bdF cvP (us ++ [u]) us.length = cvC u := by
  have nn : ∀ {us : List Tb} {t : Tb} {e : Int}, Rn p us t e → ∀ x ∈ us, cvP x = cvC x := fun h => by
    induction h with
    | start => intro x hx; cases hx
    | @cut us0 t0 u0 _ _ h ho hp hf ha ih =>
      intro x hx
      rcases List.mem_append.1 hx with hx | hx
      · exact ih x hx
      · obtain rfl := List.mem_singleton.1 hx
        exact cvC_eq hp.d1 (gval_nn hm h ho (by have := h.len rfl hm; have := ho.prp.2; omega))
  refine ⟨fun k h => ?_, ?_⟩
  · unfold bdF
    rw [List.getD_eq_getElem?_getD, Int.toNat_natCast, List.getElem?_map, List.getElem?_append_left h, List.getElem?_eq_getElem h]
    exact nn hr _ (List.getElem_mem h)
  · unfold bdF
    rw [List.getD_eq_getElem?_getD, Int.toNat_natCast, List.getElem?_map, List.getElem?_append_right (by omega)]
    simp only [Nat.sub_self, List.getElem?_cons_zero, Option.map_some, Option.getD_some]
    exact cvC_eq ho.prp.1.d1 (gval_nn hm hr ho (by have := hr.len rfl hm; have := ho.prp.2; omega))
theorem Rn.part2 {p : Lp} {us : List Tb} {t : Tb} {e : Int} (h : Rn p us t e) : ∀ k : Nat, (hk : k < us.length) → ∃ us0 t0, us0.length = k ∧ Rn p us0 t0 0 ∧ OptR t0 us[k] 0 ∧ 0 ≤ gfr us[k] us[k].nb.toNat := by
  induction h with
  | start => intro k hk; simp at hk
  | @cut us0 t0 u0 _ _ h ho hp hf ha ih =>
    intro k hk
    rw [List.length_append, List.length_singleton] at hk
    rcases Nat.lt_or_ge k us0.length with hlt | hge
    · rw [List.getElem_append_left hlt]; exact ih k hlt
    · have hkk : k = us0.length := by omega
      subst hkk
      rw [List.getElem_append_right (by omega)]
      simp only [Nat.sub_self, List.getElem_cons_zero]
      exact ⟨us0, t0, rfl, h, ho, hf⟩
/-- The numbers of a plan, and whether the problem permits them. -/
def WholeR (p : Lp) (y : Int → Int) (n : Int) (f : Int → Int) (c : Int) (ok : Prop) : Prop :=
  (¬ ok ∧ n = 0 ∧ c = 0 ∧ ∃ i, 0 ≤ i ∧ i < p.m ∧ dotp (p.A i) y p.n.toNat < p.b i) ∨ (ok ∧ n = p.n ∧ f = y ∧ c = dotp p.c y p.n.toNat ∧ ∀ i, 0 ≤ i → i < p.m → p.b i ≤ dotp (p.A i) y p.n.toNat)
/-- What Bounds says. -/
theorem bounds_law {p : Lp} (hm : 0 ≤ p.m) (hl : LOk p) {n2 : Int} {f2 : Int → Int} (hb : BoundsR cvP p 8 n2 f2 0) {y : Int → Int} (hy : ∀ j, 0 ≤ j → j < p.n → 0 ≤ y j) {nw c : Int} {fw : Int → Int} {ok : Prop} (hw : WholeR p y nw fw c ok) :
    0 < n2 ∧ ∀ i, 0 ≤ i → i < n2 → (0 < i → f2 (i - 1) ≤ f2 i) ∧ (ok → f2 i ≤ c) := by
  rcases hb with ⟨_, _, h⟩ | ⟨_, _, h, _⟩ | ⟨_, _, _, us, t, u, hr, ho, hlen, hc, hn, hf⟩
  · omega
  · exact absurd rfl h
  obtain ⟨b1, b2⟩ := bdF_at hm hr ho
  obtain ⟨u1, u2⟩ := rn_up hm hr rfl ho
  refine ⟨by omega, fun i i0 i1 => ⟨fun ip => ?_, fun hok => ?_⟩⟩
  · rw [hf i i0 i1, hf (i - 1) (by omega) (by omega)]
    obtain ⟨k, rfl⟩ := Int.eq_ofNat_of_zero_le i0
    obtain ⟨k', rfl⟩ : ∃ k', k = k' + 1 := ⟨k - 1, by omega⟩
    rw [show ((k' + 1 : Nat) : Int) - 1 = (k' : Int) by omega, b1 k' (by omega)]
    by_cases hk : k' + 1 < us.length
    · rw [b1 (k' + 1) hk]; exact u2 k' hk
    · rw [show k' + 1 = us.length by omega, b2]; exact u1 k' (by omega)
  · rcases hw with ⟨h, _⟩ | ⟨_, _, _, hcost, hper⟩
    · exact absurd hok h
    have hst := wh_start hl hm hy hper
    rw [hf i i0 i1, hcost]
    obtain ⟨k, rfl⟩ := Int.eq_ofNat_of_zero_le i0
    by_cases hk : k < us.length
    · rw [b1 k hk]
      obtain ⟨us0, t0, _, g1, g2, _⟩ := hr.part2 k hk
      exact rn_le hm g1 rfl g2 hst
    · rw [show k = us.length by omega, b2]; exact rn_le hm hr rfl ho hst
/-- What Solve says where it fails. -/
theorem best_none {p : Lp} (hm : 0 ≤ p.m) (hl : LOk p) {n val cuts e : Int} {f : Int → Int} (hg : GSolveR p n f val cuts e) (he : e ≠ 0) {y : Int → Int} (hy : ∀ j, 0 ≤ j → j < p.n → 0 ≤ y j) {nw c : Int} {fw : Int → Int} {ok : Prop} (hw : WholeR p y nw fw c ok) :
    n = 0 ∧ val = 0 ∧ cuts = 0 ∧ (e = 19 → ¬ ok) := by
  rcases hg with ⟨_, h1, h2, h3, us, t, e0, hr, hc⟩ | ⟨h, _⟩
  · refine ⟨h1, h2, h3, fun h19 hok => ?_⟩
    subst h19
    rcases hw with ⟨h, _⟩ | ⟨_, _, _, hcost, hper⟩
    · exact h hok
    rcases hc with ⟨h4, _⟩ | ⟨h4, u, ho⟩
    · exact rn_no19 hr h4
    · subst h4
      obtain ⟨v', h'⟩ := wh_rn hm hr rfl (wh_start hl hm hy hper)
      exact wh_none ho (by have := hr.len rfl hm; omega) h'
  · exact absurd h he
/-- What Solve says where it succeeds. -/
theorem best_law {p : Lp} (hm : 0 ≤ p.m) (hm8 : p.m ≤ 8) (hl : LOk p) {n val cuts : Int} {f : Int → Int} (hg : GSolveR p n f val cuts 0) {n2 e2 : Int} {f2 : Int → Int} (hb : BoundsR cvP p 8 n2 f2 e2) {y : Int → Int} (hy : ∀ j, 0 ≤ j → j < p.n → 0 ≤ y j) {nw c : Int} {fw : Int → Int} {ok : Prop} (hw : WholeR p y nw fw c ok) :
    n = p.n ∧ (ok → val ≤ c) ∧ (∀ j, 0 ≤ j → j < n → 0 ≤ f j ∧ f j ≤ 1073741824) ∧ (∀ i, 0 ≤ i → i < p.m → p.b i ≤ dotp (p.A i) f p.n.toNat) ∧ dotp p.c f p.n.toNat = val ∧ (e2 = 0 → f2 (n2 - 1) ≤ val ∧ (8 < cuts ∨ (f2 (n2 - 1) = val ∧ n2 = cuts + 1))) := by
  rcases hg with ⟨h, _⟩ | ⟨_, us, t, u, hr, ho, hp, hfr, hcu, h1, h3, h4⟩
  · exact absurd rfl h
  obtain ⟨g1, g2, g3, g4⟩ := gsol_val hm hr ho hfr h1 h3 h4
  have hd := hp.d1
  have hcv : cvC u = val := cvC_at hd g3.symm
  refine ⟨g1, fun hok => ?_, fun j j0 j1 => ?_, fun i i0 i1 => ?_, ?_, fun he2 => ?_⟩
  · rcases hw with ⟨h, _⟩ | ⟨_, _, _, hcost, hper⟩
    · exact absurd hok h
    · rw [← hcv, hcost]; exact rn_le hm hr rfl ho (wh_start hl hm hy hper)
  · have hbr := bas_rng hp ho.fin.2 j u.nb.toNat (by omega)
    have hta := tdiv_abs (A := 1073741824) hd (a := bas u u.nb.toNat j) (by omega)
    rw [h3 j j0 j1]
    have := Int.tdiv_nonneg hbr.1 (show 0 ≤ u.den by omega)
    omega
  · have h5 := (gval hm hr ho g4).2 i i0 i1
    have h6 := bas_nn ho (p.n + i)
    have h7 : dotp (p.A i) (bas u u.nb.toNat) p.n.toNat = dotp (p.A i) f p.n.toNat * u.den := by
      rw [dotp_comm, dotp_comm (p.A i), ← dotp_scale]
      exact sumTo_congr fun j j0 j1 => by show _ * _ = _ * _; rw [← g2 j j0 (by omega)]
    rw [h5, h7] at h6
    have h8 : p.b i * u.den ≤ dotp (p.A i) f p.n.toNat * u.den := by omega
    exact Int.le_of_mul_le_mul_right h8 (by omega)
  · rw [h4, dotp_comm, g1]
  · subst he2
    rcases hb with ⟨_, _, h⟩ | ⟨_, _, h, _⟩ | ⟨_, _, _, us', t', u', hr', ho', hlen, hc, hn, hf⟩
    · omega
    · exact absurd rfl h
    obtain ⟨b1, b2⟩ := bdF_at hm hr' ho'
    rw [hf (n2 - 1) (by omega) (by omega), show n2 - 1 = (us'.length : Int) by omega, b2]
    rcases Nat.lt_trichotomy us'.length us.length with hlt | heq | hgt
    · obtain ⟨us0, t0, q1, q2, q3, q4⟩ := hr.part2 _ hlt
      obtain ⟨rfl, rfl, _⟩ := q2.eqlen hr' q1
      obtain ⟨e9, _⟩ := OptR.same ho' q3
      have hl9 := hr'.len rfl hm
      have hl8 := ho'.prp.2
      refine ⟨?_, .inl ?_⟩
      · rw [← hcv, e9]; exact (rn_up hm hr rfl ho).1 _ hlt
      · rw [← e9] at q4
        rcases hc with h | h | h <;> omega
    · obtain ⟨rfl, rfl, _⟩ := hr'.eqlen hr heq
      obtain ⟨rfl, _⟩ := OptR.same ho ho'
      exact ⟨by omega, .inr ⟨hcv, by omega⟩⟩
    · exfalso
      obtain ⟨us0, t0, q1, q2, q3, q4⟩ := hr'.part2 _ hgt
      obtain ⟨rfl, rfl, _⟩ := q2.eqlen hr q1
      obtain ⟨e9, _⟩ := OptR.same ho q3
      rw [← e9] at q4
      omega

/-- The numbers of a plan: each below 60. -/
def whv (mu : Int) (fu : Int → Int) : Int → Int := fun k => if k < mu then (fu k).tmod 60 else 0
theorem whv_rng {mu : Int} {fu : Int → Int} (hub : ∀ k, 0 ≤ fu k ∧ fu k ≤ 255) (k : Int) : 0 ≤ whv mu fu k ∧ whv mu fu k ≤ 59 := by
  unfold whv
  have h1 := Int.tmod_nonneg 60 (hub k).1
  have h2 := Int.tmod_lt_of_pos (fu k) (show (0 : Int) < 60 by decide)
  split <;> omega

set_option maxRecDepth 20000 in
theorem c_whole {vc vA vb : Value} {vq : Int → Value} {p : Lp} {vu : Value} {mu : Int} {fu : Int → Int} (w0 : World) (hL : LAt w0 vc vA vb vq p) (hU : Row w0 vu 1 mu (fun k => .int .u8 (fu k))) (hub : ∀ k, 0 ≤ fu k ∧ fu k ≤ 255) (hl : LOk p) :
    Calls Try.prog 27 [.agg #[vc, vA, vb], vu].toArray w0 fun e w => ∃ v, e = .returned v ∧ ∃ (r : Value) (n : Int) (f : Int → Int) (c : Int) (ok : Prop), v = .tuple #[r, .int .i64 c, B ok] ∧ WholeR p (whv mu fu) n f c ok ∧ Slh r n ∧ Sat w0 w [.own r 1 3 n (ints f)] := by
  have hn := hL.c.slh.n0; have hn1 := hL.c.slh.n1; have hm := hL.A.row.slh.n0; have hm1 := hL.A.row.slh.n1; have hk := hL.b.slh.n0; have hk1 := hL.b.slh.n1
  have b1 := hl.n1; have b2 := hl.n2; have b3 := hl.m2; have b4 := hl.k
  have hmu := hU.slh.n0; have hmu1 := hU.slh.n1
  refine zenG Try.func27 Try.ntmps27 fun w hS => ?_
  refine zsq <| zrg ?_
  refine zla (xbx (cs := [_, _, _]) hS) ?_; rintro _ w ⟨g1, rfl, hS⟩
  replace hS : Sat w0 w [.blk _ [_, _, _]] := hS
  iterate 3 refine zlv xas ?_
  refine zln <| ztn <| zsq <| zrg ?_
  refine zlv (xfb 0 fd_44_0) ?_
  refine zlv (xlb 0 pl_22 hS) ?_
  refine zlv (xln sl_22 hL.c.slh) ?_
  refine zla (xmk sl_22 el_3 hS) ?_; rintro v1 w ⟨hS, hv1⟩
  replace hS : Sat w0 w [.blk _ [_, _, _], _] := hS
  refine zlv xas ?_
  refine zln <| ztn <| zsq <| zrg ?_
  refine zlv xas ?_
  refine zln <| ztn <| zsq <| zsq <| zrg ?_
  refine zlv xmv ?_
  refine zlv (xln sl_22 hv1) ?_
  refine zlv xmv ?_
  refine zln <| ztn <| zbk <| zlp (fun mm M w => ∃ (y : Int) (i : Int) (fO : Int → Int), mm = ((p.n - i).toNat) ∧ (0 ≤ i) ∧ (i ≤ p.n) ∧ (y = dotp p.c (whv mu fu) i.toNat) ∧ (∀ k, 0 ≤ k → k < i → fO k = whv mu fu k) ∧ (∀ k, i ≤ k → k < p.n → fO k = 0) ∧ M = [(1, vu), (2, .pointer (some ⟨g1, 0, none⟩)), (4, .slice none 0 0), (5, .int .i64 0), (6, .bool false), (7, v1), (8, .int .i64 y), (19, .int .i64 p.n), (20, .int .i64 i)] ∧ Sat w0 w [.blk g1 [vc, vA, vb], .own v1 1 3 p.n (ints fO)]) ⟨0, 0, (fun _ => 0), rfl, (by omega), (by omega), ?_, ?_, ?_, rfl, hS⟩ ?_
  ·
   rfl
  ·
   intro k k0 k1; omega
  ·
   intro k k0 k1; rfl
  ·
   clear hS w
   rintro mm M w ⟨y, i, fO, rfl, i0, i1, hy, hO1, hO2, rfl, hS⟩
   refine zsq <| zrg ?_
   refine zlv xlss ?_
   refine zln <| ztn <| zsq ?_
   refine zcif ?_ ?_ <;> intro hc
   ·
    refine zsk <| ztn <| zsq <| zbk <| zsq <| zrg ?_
    refine zlv xmv ?_
    refine zlv xas ?_
    refine zln <| ztn <| zsq <| zsq <| zrg ?_
    iterate 2 refine zlv xmv ?_
    refine zlv (xln sl_45 hU.slh) ?_
    refine zlv xlss ?_
    have hui := hub i
    refine zln <| ztn ?_
    refine zcif ?_ ?_ <;> intro hc
    ·
     refine zrg ?_
     iterate 4 refine zlv xmv ?_
     refine zlv (xix (kk := i) sl_45 hU.slh) ?_
     refine zlv (xlr (u := .int .u8 (fu i)) pl_5 (hU.below hS.below)) ?_
     refine zlv (xcv so_5 it_3) ?_
     refine zlv (xrem (r := (Int.tmod (fu i) 60))) ?_
     refine zlv (xix (kk := i) sl_22 hv1) ?_
     refine zle (xso 1 pl_3 hS (upd_ints _ _ _)) ?_; clear hS; rintro w hS
     replace hS : Sat w0 w [.blk _ [_, _, _], _] := hS
     refine zln <| ztn ?_
     refine zdst [0, 1] [0, 1] 1000 mx_ hS ?_; clear hS; intro w hS
     refine zdv 0 (fun _ => xmv) ?_
     refine zdv 1 (fun _ => (xfb 0 fd_44_0)) ?_
     refine zdla 2 (fun w hS => (xlb 0 pl_22 hS)) ?_
     refine zdv 3 (fun _ => xmv) ?_
     refine zdv 4 (fun _ => (xix (kk := i) sl_22 hL.c.slh)) ?_
     refine zdla 5 (fun w hS => (xlr (u := .int .i64 (p.c i)) pl_3 (hL.c.below hS.below))) ?_
     refine zdv 6 (fun _ => xmv) ?_
     refine zdv 7 (fun _ => xmv) ?_
     refine zdv 8 (fun _ => (xix (kk := i) sl_22 hv1)) ?_
     refine zdla 9 (fun w hS => (xlr (u := .int .i64 ((upd fO i (Int.tmod (fu i) 60)) i)) pl_3 (hS.rowN 1 rfl))) ?_
     have hov : (upd fO i (Int.tmod (fu i) 60)) i = whv mu fu i := by first | (rw [upd_self]; unfold whv; rw [if_pos (by omega)]) | (rw [hO2 i (by omega) (by omega)]; unfold whv; rw [if_neg (by omega)])
     rw [hov]
     have hwr := whv_rng (mu := mu) hub i
     have hmu2 := mul_abs (a := p.c i) (b := whv mu fu i) (A := 1000000) (B := 59) (by have := hl.c i i0 (by omega); omega) (by omega)
     have hbd := dotp_bd (f := p.c) (g := whv mu fu) (A := 1000000) (B := 59) (by omega) (by omega) i.toNat (fun k k0 k1 => by have := hl.c k k0 (by omega); omega) (fun k k0 k1 => by have := whv_rng (mu := mu) hub k; omega)
     refine zdv 10 (fun _ => (xmul (r := ((p.c i) * (whv mu fu i))) (e := rfl))) ?_
     refine zdv 11 (fun _ => (xadd (r := y + ((p.c i) * (whv mu fu i))))) ?_
     refine zdv 12 (fun _ => xas) ?_
     refine zdd <| zbn <| ztn <| zrg ?_
     refine zlv (xadd (r := i + 1)) ?_
     refine zlv xmv ?_
     refine zln <| zlq ⟨y + ((p.c i) * (whv mu fu i)), i + 1, (upd fO i (Int.tmod (fu i) 60)), rfl, (by omega), (by omega), ?_, ?_, ?_, rfl, hS⟩
     ·
      rw [dotp_next _ _ i0, ← hy]
     ·
      intro k k0 k1; by_cases e : k = i
      · rw [e]; exact hov
      · first | exact hO1 k k0 (by omega) | (rw [upd_ne _ _ e]; exact hO1 k k0 (by omega))
     ·
      intro k k0 k1; first | exact hO2 k (by omega) k1 | (rw [upd_ne _ _ (by omega)]; exact hO2 k (by omega) k1)
    ·
     refine zsk <| ztn ?_
     refine zdst [0, 1] [0, 1] 1000 mx_ hS ?_; clear hS; intro w hS
     refine zdv 0 (fun _ => xmv) ?_
     refine zdv 1 (fun _ => (xfb 0 fd_44_0)) ?_
     refine zdla 2 (fun w hS => (xlb 0 pl_22 hS)) ?_
     refine zdv 3 (fun _ => xmv) ?_
     refine zdv 4 (fun _ => (xix (kk := i) sl_22 hL.c.slh)) ?_
     refine zdla 5 (fun w hS => (xlr (u := .int .i64 (p.c i)) pl_3 (hL.c.below hS.below))) ?_
     refine zdv 6 (fun _ => xmv) ?_
     refine zdv 7 (fun _ => xmv) ?_
     refine zdv 8 (fun _ => (xix (kk := i) sl_22 hv1)) ?_
     refine zdla 9 (fun w hS => (xlr (u := .int .i64 (fO i)) pl_3 (hS.rowN 1 rfl))) ?_
     have hov : fO i = whv mu fu i := by first | (rw [upd_self]; unfold whv; rw [if_pos (by omega)]) | (rw [hO2 i (by omega) (by omega)]; unfold whv; rw [if_neg (by omega)])
     rw [hov]
     have hwr := whv_rng (mu := mu) hub i
     have hmu2 := mul_abs (a := p.c i) (b := whv mu fu i) (A := 1000000) (B := 59) (by have := hl.c i i0 (by omega); omega) (by omega)
     have hbd := dotp_bd (f := p.c) (g := whv mu fu) (A := 1000000) (B := 59) (by omega) (by omega) i.toNat (fun k k0 k1 => by have := hl.c k k0 (by omega); omega) (fun k k0 k1 => by have := whv_rng (mu := mu) hub k; omega)
     refine zdv 10 (fun _ => (xmul (r := ((p.c i) * (whv mu fu i))) (e := rfl))) ?_
     refine zdv 11 (fun _ => (xadd (r := y + ((p.c i) * (whv mu fu i))))) ?_
     refine zdv 12 (fun _ => xas) ?_
     refine zdd <| zbn <| ztn <| zrg ?_
     refine zlv (xadd (r := i + 1)) ?_
     refine zlv xmv ?_
     refine zln <| zlq ⟨y + ((p.c i) * (whv mu fu i)), i + 1, fO, rfl, (by omega), (by omega), ?_, ?_, ?_, rfl, hS⟩
     ·
      rw [dotp_next _ _ i0, ← hy]
     ·
      intro k k0 k1; by_cases e : k = i
      · rw [e]; exact hov
      · first | exact hO1 k k0 (by omega) | (rw [upd_ne _ _ e]; exact hO1 k k0 (by omega))
     ·
      intro k k0 k1; first | exact hO2 k (by omega) k1 | (rw [upd_ne _ _ (by omega)]; exact hO2 k (by omega) k1)
   ·
    refine zxt <| ztx <| ztx <| zbh <| ztn <| zsq <| zsq <| zrg ?_
    refine zlv (xfb 1 fd_44_1) ?_
    refine zlv (xlb 0 pl_23 hS) ?_
    refine zlv (xln sl_23 hL.A.row.slh) ?_
    refine zlv xmv ?_
    refine zln <| ztn <| zbk ?_
    obtain rfl : i = p.n := by omega
    replace hS := hS.recont 1 rfl (d := ints (whv mu fu)) (fun k k0 k1 => by unfold ints; rw [hO1 k k0 (by omega)])
    replace hS : Sat w0 w [.blk _ [_, _, _], _] := hS
    refine zlp (fun mm M w => ∃ (i2 : Int), mm = ((p.m - i2).toNat) ∧ (0 ≤ i2) ∧ (i2 ≤ p.m) ∧ (∀ k, 0 ≤ k → k < i2 → p.b k ≤ dotp (p.A k) (whv mu fu) p.n.toNat) ∧ M = [(2, .pointer (some ⟨g1, 0, none⟩)), (7, v1), (8, .int .i64 y), (50, vA), (51, .int .i64 p.m), (52, .int .i64 i2)] ∧ Sat w0 w [.blk g1 [vc, vA, vb], .own v1 1 3 p.n (ints (whv mu fu))]) ⟨0, rfl, (by omega), (by omega), ?_, rfl, hS⟩ ?_
    ·
     intro k k0 k1; omega
    ·
     clear hS w
     rintro mm M w ⟨i2, rfl, h0, h1, hrw, rfl, hS⟩
     refine zsq <| zrg ?_
     refine zlv xlss ?_
     refine zln <| ztn <| zsq ?_
     refine zcif ?_ ?_ <;> intro hc
     ·
      refine zsk <| ztn <| zsq <| zbk <| zsq <| zrg ?_
      refine zlv xmv ?_
      have hri := (hl.rows i2 h0 (by omega)).1
      refine zlv (xix (kk := i2) sl_23 hL.A.row.slh) ?_
      refine zlv (xlr (u := (vq i2)) pl_22 (hL.A.row.below hS.below)) ?_
      iterate 2 refine zlv xas ?_
      refine zln <| ztn <| zsq <| zrg ?_
      refine zlv xas ?_
      refine zln <| ztn <| zsq <| zsq <| zrg ?_
      refine zlv xmv ?_
      refine zlv (xln sl_22 (hL.A.p i2 (by omega) (by omega)).slh) ?_
      refine zlv xmv ?_
      refine zln <| ztn <| zbk <| zlp (fun mm M w => ∃ (z : Int) (j : Int), mm = ((p.ln i2 - j).toNat) ∧ (0 ≤ j) ∧ (j ≤ p.ln i2) ∧ (z = dotp (p.A i2) (whv mu fu) j.toNat) ∧ M = [(2, .pointer (some ⟨g1, 0, none⟩)), (7, v1), (8, .int .i64 y), (10, .int .i64 i2), (11, (vq i2)), (12, .int .i64 z), (50, vA), (51, .int .i64 p.m), (52, .int .i64 i2), (58, .int .i64 (p.ln i2)), (59, .int .i64 j)] ∧ Sat w0 w [.blk g1 [vc, vA, vb], .own v1 1 3 p.n (ints (whv mu fu))]) ⟨0, 0, rfl, (by omega), (by omega), ?_, rfl, hS⟩ ?_
      ·
       rfl
      ·
       clear hS w
       rintro mm M w ⟨z, j, rfl, j0, j1, hz, rfl, hS⟩
       refine zsq <| zrg ?_
       refine zlv xlss ?_
       refine zln <| ztn <| zsq ?_
       refine zcif ?_ ?_ <;> intro hc
       ·
        refine zsk <| ztn <| zsq <| zbk <| zsq <| zrg ?_
        refine zlv xmv ?_
        refine zlv xas ?_
        refine zln <| ztn ?_
        refine zdst [0, 1] [0, 1] 1000 mx_ hS ?_; clear hS; intro w hS
        refine zdv 0 (fun _ => xmv) ?_
        refine zdv 1 (fun _ => xmv) ?_
        refine zdv 2 (fun _ => xmv) ?_
        refine zdv 3 (fun _ => (xix (kk := j) sl_22 (hL.A.p i2 (by omega) (by omega)).slh)) ?_
        refine zdla 4 (fun w hS => (xlr (u := .int .i64 ((p.A i2) j)) pl_3 ((hL.A.p i2 (by omega) (by omega)).below hS.below))) ?_
        refine zdv 5 (fun _ => xmv) ?_
        refine zdv 6 (fun _ => xmv) ?_
        refine zdv 7 (fun _ => (xix (kk := j) sl_22 hv1)) ?_
        refine zdla 8 (fun w hS => (xlr (u := .int .i64 ((whv mu fu) j)) pl_3 (hS.rowN 1 rfl))) ?_
        have hwr := whv_rng (mu := mu) hub j
        have hmu2 := mul_abs ((hl.rows i2 h0 (by omega)).2 j j0 (by omega)) (b := whv mu fu j) (B := 59) (by omega)
        have hbd := dotp_bd (f := p.A i2) (g := whv mu fu) (A := 1000000) (B := 59) (by omega) (by omega) j.toNat (fun k k0 k1 => (hl.rows i2 h0 (by omega)).2 k k0 (by omega)) (fun k k0 k1 => by have := whv_rng (mu := mu) hub k; omega)
        refine zdv 9 (fun _ => (xmul (r := (((p.A i2) j) * ((whv mu fu) j))) (e := rfl))) ?_
        refine zdv 10 (fun _ => (xadd (r := z + (((p.A i2) j) * ((whv mu fu) j))))) ?_
        refine zdv 11 (fun _ => xas) ?_
        refine zdd <| zbn <| ztn <| zrg ?_
        refine zlv (xadd (r := j + 1)) ?_
        refine zlv xmv ?_
        refine zln <| zlq ⟨z + (((p.A i2) j) * ((whv mu fu) j)), j + 1, rfl, (by omega), (by omega), ?_, rfl, hS⟩
        ·
         rw [dotp_next _ _ j0, ← hz]
       ·
        refine zxt <| ztx <| ztx <| zbh <| ztn <| zsq <| zrg ?_
        refine zlv xmv ?_
        refine zlv (xfb 2 fd_44_2) ?_
        refine zlv (xlb 0 pl_22 hS) ?_
        refine zlv xmv ?_
        refine zlv (xix (kk := i2) sl_22 hL.b.slh) ?_
        refine zlv (xlr (u := .int .i64 (p.b i2)) pl_3 (hL.b.below hS.below)) ?_
        refine zlv xlss ?_
        refine zln <| ztn ?_
        refine zcif ?_ ?_ <;> intro hc
        ·
         refine zsq <| zrg ?_
         iterate 3 refine zlv xas ?_
         refine zln <| ztn <| zrt <| zbr <| ztr <| ztr <| zbr <| ztr <| zf3 ⟨_, rfl, ?_⟩
         obtain rfl : j = p.ln i2 := by omega
         exact ⟨_, 0, fun _ => 0, _, False, by rw [B_false not_false], .inl ⟨not_false, rfl, rfl, i2, h0, by omega, by rw [← hri]; omega⟩, slh_nil, (hS.addnil 1 3 (ints fun _ => 0)).sub (.cons _ (.cons _ (.cons_cons _ .slnil)))⟩
        ·
         refine zsk <| zbn <| ztn <| zrg ?_
         refine zlv (xadd (r := i2 + 1)) ?_
         refine zlv xmv ?_
         refine zln <| zlq ⟨i2 + 1, rfl, (by omega), (by omega), ?_, rfl, hS⟩
         ·
          intro k k0 k1; rcases Int.lt_or_eq_of_le (show k ≤ i2 by omega) with hk | hk; exact hrw k k0 hk; rw [hk, ← hri]; obtain rfl : j = p.ln i2 := by omega
          omega
     ·
      refine zxt <| ztx <| ztx <| zbh <| ztn <| zsq <| zrg ?_
      iterate 2 refine zlv xmv ?_
      iterate 3 refine zlv xas ?_
      refine zln <| ztn <| zrt <| zf3 ⟨_, rfl, ?_⟩
      exact ⟨_, p.n, (whv mu fu), _, True, by rw [B_true trivial], .inr ⟨trivial, rfl, rfl, hy, fun k k0 k1 => hrw k k0 (by omega)⟩, hv1, hS.pk [1]⟩

end Go.Proofs.Ytelfplepnodbgaa
