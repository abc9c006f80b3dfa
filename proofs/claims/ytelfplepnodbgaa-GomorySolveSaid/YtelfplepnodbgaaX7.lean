/- Plain laws on rounds of cuts. -/
import Derived.Test.YtelfplepnodbgaaGc
import Derived.Test.YtelfplepnodbgaaX6
namespace Go.Proofs.Ytelfplepnodbgaa
open Go Go.RowKit Go.Proofs.Gw
set_option linter.unusedVariables false

theorem idt_add {t : Tb} (hp : TPrp t) {row k0 z : Int} {v : Int → Int} (h : Idt (addT t row) k0 z v) : Idt t k0 z v := fun i i0 i1 => by
  have hc := hp.c
  have h1 := h i i0 (by show i ≤ t.nb + 1; omega)
  have eC : (addT t row).C i = t.C i := gsn_lt (by omega)
  have eL : lhsv (addT t row) z v i = lhsv t z v i := by
    unfold lhsv
    by_cases hi : i = 0
    · rw [if_pos hi, if_pos hi]
    · rw [if_neg hi, if_neg hi]
      show v (gsn t.B t.nb (t.nb + t.nf) (i - 1)) = _
      rw [gsn_lt (by omega)]
  have eR : rowv (addT t row) k0 v i = rowv t k0 v i := by
    unfold rowv
    rw [eC]; rfl
  rw [eL, eR] at h1
  exact h1
theorem idt_opt {t u : Tb} (h : OptR t u 0) (k0 z : Int) (v : Int → Int) : Idt t k0 z v ↔ Idt u k0 z v := by
  obtain ⟨u', f, hr, ⟨hf, _, rfl⟩ | ⟨hf, he, _⟩⟩ := h
  · exact idt_run hr k0 z v
  · exact absurd he.symm hf
theorem AddR.ok {t t' : Tb} {row e : Int} (h : AddR t row t' e) (he : e = 0) : t' = addT t row ∧ TPrp t ∧ 0 ≤ row ∧ row < t.nb ∧ t.nb < 16 := by
  rcases h with ⟨_, _, h⟩ | ⟨_, _, _, h⟩ | ⟨_, _, _, _, _, h⟩ | ⟨_, _, _, _, _, _, h⟩ | ⟨h1, h2, h3, _, h4, rfl, _⟩ <;> first | (exfalso; omega) | exact ⟨rfl, h1, h2, h3, h4⟩
theorem idt_rn {p : Lp} {us : List Tb} {t : Tb} {e : Int} (h : Rn p us t e) (he : e = 0) {k0 z : Int} {v : Int → Int} (hi : Idt t k0 z v) : Idt (startT p) k0 z v := by
  induction h with
  | start h => rcases h with ⟨_, _, h⟩ | ⟨_, rfl, _⟩; exact absurd he (by omega); exact hi
  | cut h ho hp hf ha ih =>
    obtain ⟨rfl, hq, _⟩ := AddR.ok ha he
    exact ih rfl ((idt_opt ho _ _ _).2 (idt_add hq hi))
theorem OptR.fin {t u : Tb} (h : OptR t u 0) : u.costs ∧ ∀ i : Int, 0 ≤ i → i < u.nb → 0 ≤ u.C (i + 1) 0 := by
  obtain ⟨u', f, hr, ⟨hf, _, rfl⟩ | ⟨hf, he, _⟩⟩ := h
  · subst hf
    obtain ⟨_, h1, h2, _⟩ := hr.fin (.inl rfl)
    have := leav_rng u u.nb.toNat
    exact ⟨h1, fun i i0 i1 => (leav_neg u u.nb.toNat).1 (by have := h2 rfl; omega) i i0 (by omega)⟩
  · exact absurd he.symm hf
/-- The basic solution obeys the tableau. -/
theorem idt_bas {u : Tb} (hp : TPrp u) (h0 : 0 ≤ u.nb) : Idt u u.den (u.C 0 0) (bas u u.nb.toNat) := fun i i0 i1 => by
  have hn := hp.n1
  have hz : sumTo (fun j => u.C i (j + 1) * bas u u.nb.toNat (u.F j)) u.nf.toNat = 0 := by
    have : sumTo (fun j => u.C i (j + 1) * bas u u.nb.toNat (u.F j)) u.nf.toNat = sumTo (fun _ => 0) u.nf.toNat := sumTo_congr fun j j0 j1 => by
      rw [bas_zero u _ fun q q0 q1 => hp.disj q0 (by omega) j0 (by omega)]; omega
    rw [this, sumTo_zero]
  unfold rowv lhsv
  rw [hz]
  by_cases hi : i = 0
  · subst hi; rw [if_pos rfl]; grind
  · rw [if_neg hi, bas_at hp u.nb.toNat (by omega) (i - 1) (by omega) (by omega), show i - 1 + 1 = i by omega]; grind
theorem gval {p : Lp} {us : List Tb} {t u : Tb} (hm : 0 ≤ p.m) (h : Rn p us t 0) (ho : OptR t u 0) (h0 : 0 ≤ u.nb) : u.C 0 0 = dotp p.c (bas u u.nb.toNat) p.n.toNat ∧ ∀ i, 0 ≤ i → i < p.m → bas u u.nb.toNat (p.n + i) = dotp (p.A i) (bas u u.nb.toNat) p.n.toNat - p.b i * u.den :=
  (idt_start (h.lok rfl) hm _ _ _).1 (idt_rn h rfl ((idt_opt ho _ _ _).2 (idt_bas ho.prp.1 h0)))
theorem bas_nn {t u : Tb} (ho : OptR t u 0) (q : Int) : 0 ≤ bas u u.nb.toNat q := by
  have hp := ho.prp.1
  by_cases h0 : 0 ≤ u.nb
  · exact (bas_rng hp ho.fin.2 q u.nb.toNat (by omega)).1
  · rw [show u.nb.toNat = 0 by omega]; simp [bas]
theorem dotp_nn {f g : Int → Int} : ∀ {n : Nat}, (∀ k : Int, 0 ≤ k → k < n → 0 ≤ f k) → (∀ k : Int, 0 ≤ k → k < n → 0 ≤ g k) → 0 ≤ dotp f g n
  | 0, _, _ => by simp [dotp, sumTo]
  | n + 1, hf, hg => by
    have h1 := dotp_nn (f := f) (g := g) (n := n) (fun k k0 k1 => hf k k0 (by omega)) (fun k k0 k1 => hg k k0 (by omega))
    have h2 := dotp_next f g (i := n) (by omega)
    rw [show ((n : Int) + 1).toNat = n + 1 by omega, show ((n : Int)).toNat = n by omega] at h2
    have h3 := Int.mul_nonneg (hf n (by omega) (by omega)) (hg n (by omega) (by omega))
    omega
theorem gval_nn {p : Lp} {us : List Tb} {t u : Tb} (hm : 0 ≤ p.m) (h : Rn p us t 0) (ho : OptR t u 0) (h0 : 0 ≤ u.nb) : 0 ≤ u.C 0 0 := by
  rw [(gval hm h ho h0).1]
  have hl := h.lok rfl
  have hn := hl.n1
  exact dotp_nn (fun k k0 k1 => (hl.c k k0 (by omega)).1) fun k _ _ => bas_nn ho k
/-- No fraction: every number of x is a multiple. -/
theorem whole_dvd {t u : Tb} (ho : OptR t u 0) (hf : gfr u u.nb.toNat < 0) {j : Int} (hj : j < u.vars) : u.den ∣ bas u u.nb.toNat j := by
  have hp := ho.prp.1
  have key : ∀ K : Nat, (K : Int) ≤ u.nb → u.den ∣ bas u K j := fun K => by
    induction K with
    | zero => intro _; exact ⟨0, by simp [bas]⟩
    | succ k ih =>
      intro hk
      have h1 := ih (by omega)
      simp only [bas, upd]
      split
      · rename_i e
        have hr := gfr_rng u u.nb.toNat
        exact Int.dvd_of_tmod_eq_zero ((gfr_law u u.nb.toNat).1 (by omega) k (by omega) (by omega) (by omega))
      · exact h1
  by_cases h0 : 0 ≤ u.nb
  · exact key _ (by omega)
  · rw [show u.nb.toNat = 0 by omega]; exact ⟨0, by simp [bas]⟩
theorem dotp_div {f g : Int → Int} {d : Int} : ∀ {n : Nat}, (∀ k : Int, 0 ≤ k → k < n → f k = d * g k) → ∀ c : Int → Int, dotp f c n = d * dotp g c n
  | 0, _, c => by simp [dotp, sumTo]
  | n + 1, h, c => by
    have h1 := dotp_div (f := f) (g := g) (d := d) (n := n) (fun k k0 k1 => h k k0 (by omega)) c
    have h2 := dotp_next f c (i := n) (by omega)
    have h3 := dotp_next g c (i := n) (by omega)
    rw [show ((n : Int) + 1).toNat = n + 1 by omega, show ((n : Int)).toNat = n by omega] at h2 h3
    have h4 := h n (by omega) (by omega)
    rw [h2, h3, h1, h4]; grind
/-! ## Two runs are one -/
theorem Rn.eqlen {p : Lp} {us : List Tb} {t : Tb} {e : Int} (h : Rn p us t e) : ∀ {us' : List Tb} {t' : Tb} {e' : Int}, Rn p us' t' e' → us.length = us'.length → us = us' ∧ t = t' ∧ e = e' := by
  induction h with
  | start h =>
    intro us' t' e' h' hl
    cases h' with
    | start h' => obtain ⟨h1, h2⟩ := h.same h'; exact ⟨rfl, h1, h2⟩
    | cut => simp at hl
  | cut h ho hp hf ha ih =>
    intro us' t' e' h' hl
    cases h' with
    | start => simp at hl
    | cut h' ho' hp' hf' ha' =>
      obtain ⟨rfl, rfl, _⟩ := ih h' (by simpa using hl)
      obtain ⟨rfl, _⟩ := OptR.same ho ho'
      obtain ⟨rfl, rfl⟩ := ha.same ha'
      exact ⟨rfl, rfl, rfl⟩
theorem Rn.part {p : Lp} {us : List Tb} {t : Tb} {e : Int} (h : Rn p us t e) : ∀ k : Nat, k < us.length → ∃ us0 t0 u0, us0.length = k ∧ Rn p us0 t0 0 ∧ OptR t0 u0 0 ∧ 0 ≤ gfr u0 u0.nb.toNat := by
  induction h with
  | start => intro k hk; simp at hk
  | @cut us0 t0 u0 _ _ h ho hp hf ha ih =>
    intro k hk
    rw [List.length_append, List.length_singleton] at hk
    rcases Nat.lt_or_ge k us0.length with hlt | hge
    · exact ih k hlt
    · exact ⟨us0, t0, u0, by omega, h, ho, hf⟩
def RnEnd (t : Tb) (e : Int) : Prop := e ≠ 0 ∨ (∃ u f, OptR t u f ∧ f ≠ 0) ∨ ∃ u, OptR t u 0 ∧ gfr u u.nb.toNat < 0
theorem RnEnd.no {t : Tb} {e : Int} (h : RnEnd t e) (he : e = 0) {u : Tb} (ho : OptR t u 0) (hf : 0 ≤ gfr u u.nb.toNat) : False := by
  rcases h with h | ⟨u', f, h1, h2⟩ | ⟨u', h1, h2⟩
  · exact h he
  · obtain ⟨_, h3⟩ := OptR.same ho h1; omega
  · obtain ⟨rfl, _⟩ := OptR.same ho h1; omega
theorem Rn.same {p : Lp} {us us' : List Tb} {t t' : Tb} {e e' : Int} (h : Rn p us t e) (h' : Rn p us' t' e') (hE : RnEnd t e) (hE' : RnEnd t' e') : us = us' ∧ t = t' ∧ e = e' := by
  rcases Nat.lt_trichotomy us.length us'.length with hlt | heq | hgt
  · obtain ⟨us0, t0, u0, h1, h2, h3, h4⟩ := h'.part _ hlt
    obtain ⟨rfl, rfl, rfl⟩ := h.eqlen h2 h1.symm
    exact (hE.no rfl h3 h4).elim
  · exact h.eqlen h' heq
  · obtain ⟨us0, t0, u0, h1, h2, h3, h4⟩ := h.part _ hgt
    obtain ⟨rfl, rfl, rfl⟩ := h'.eqlen h2 h1.symm
    exact (hE'.no rfl h3 h4).elim
/-- What Solve, of the reference, returns. -/
def RGSolveR (p : Lp) (n : Int) (f : Int → Int) (val cuts e : Int) : Prop :=
  (e ≠ 0 ∧ n = 0 ∧ val = 0 ∧ cuts = 0 ∧ ∃ us t e', Rn p us t e' ∧ ((e' = e ∧ e' ≠ 0) ∨ (e' = 0 ∧ ∃ u, OptR t u e))) ∨
    (e = 0 ∧ ∃ us t u, Rn p us t 0 ∧ OptR t u 0 ∧ gfr u u.nb.toNat < 0 ∧ cuts = (us.length : Int) ∧ n = u.nf ∧ (∀ j, 0 ≤ j → j < n → f j = (rdX u u.nb.toNat j).tdiv u.den) ∧ val = (u.C 0 0).tdiv u.den)
theorem GSolveR.same {p : Lp} (hm : 0 ≤ p.m) {n n' val val' cuts cuts' e e' : Int} {f f' : Int → Int} (h : GSolveR p n f val cuts e) (h' : RGSolveR p n' f' val' cuts' e') : n = n' ∧ (∀ j, 0 ≤ j → j < n → f j = f' j) ∧ val = val' ∧ cuts = cuts' ∧ e = e' := by
  have endE : ∀ {us : List Tb} {t : Tb} {e e0 : Int}, ((e0 = e ∧ e0 ≠ 0) ∨ (e0 = 0 ∧ ∃ u, OptR t u e)) → e ≠ 0 → RnEnd t e0 := fun h he => by
    rcases h with ⟨_, h⟩ | ⟨h, u, ho⟩
    · exact .inl h
    · exact .inr (.inl ⟨u, _, ho, he⟩)
  rcases h with ⟨he, h1, h2, h3, us, t, e0, hr, hc⟩ | ⟨he, us, t, u, hr, ho, hp, hf, h1, h2, h3, h4⟩ <;> rcases h' with ⟨ge, g1, g2, g3, us', t', e1, gr, gc⟩ | ⟨ge, us', t', u', gr, go, gf, g1, g2, g3, g4⟩
  · obtain ⟨rfl, rfl, rfl⟩ := hr.same gr (endE (us := us) hc he) (endE (us := us) gc ge)
    refine ⟨by omega, fun j j0 j1 => by omega, by omega, by omega, ?_⟩
    rcases hc with ⟨a, b⟩ | ⟨a, u1, b⟩ <;> rcases gc with ⟨c, d⟩ | ⟨c, u2, d⟩
    · omega
    · omega
    · omega
    · exact (OptR.same b d).2
  · obtain ⟨rfl, rfl, rfl⟩ := hr.same gr (endE (us := us) hc he) (.inr (.inr ⟨u', go, gf⟩))
    rcases hc with ⟨a, b⟩ | ⟨a, u1, b⟩
    · exact absurd rfl b
    · exact absurd (OptR.same go b).2.symm he
  · obtain ⟨rfl, rfl, rfl⟩ := hr.same gr (.inr (.inr ⟨u, ho, hf⟩)) (endE (us := us) gc ge)
    rcases gc with ⟨a, b⟩ | ⟨a, u1, b⟩
    · exact absurd rfl b
    · exact absurd (OptR.same ho b).2.symm ge
  · obtain ⟨rfl, rfl, _⟩ := hr.same gr (.inr (.inr ⟨u, ho, hf⟩)) (.inr (.inr ⟨u', go, gf⟩))
    obtain ⟨rfl, _⟩ := OptR.same ho go
    have hv := hp.v
    have hd := hp.d1
    have hdm := hr.dims rfl
    have hod := ho.dims
    refine ⟨by omega, fun j j0 j1 => by rw [h3 j j0 j1, g3 j j0 (by omega), rdX_bas u (by omega)], ?_, by omega, by omega⟩
    rw [h4, g4]
    by_cases h0 : 0 ≤ u.nb
    · have hg := (gval hm hr ho h0).1
      have hx : ∀ k : Int, 0 ≤ k → k < n.toNat → bas u u.nb.toNat k = u.den * f k := fun k k0 k1 => by
        rw [h3 k k0 (by omega), Int.mul_tdiv_cancel' (whole_dvd ho hf (by omega))]
      have := dotp_div (n := n.toNat) hx p.c
      rw [dotp_comm, show n.toNat = p.n.toNat by omega, ← hg, show p.n.toNat = n.toNat by omega] at this
      rw [this, Int.mul_tdiv_cancel_left _ (by omega)]
    · have := hr.len rfl hm
      have := ho.prp.2
      omega
theorem rdX_rng {u : Tb} (hp : TPrp u) (j : Int) : ∀ K : Nat, (K : Int) ≤ u.nb → -1073741824 ≤ rdX u K j ∧ rdX u K j ≤ 1073741824
  | 0, _ => by simp [rdX]
  | k + 1, hk => by
    have ih := rdX_rng hp j k (by omega)
    have h0 := hp.n1
    have hc := hp.cell (i := k + 1) (j := 0) (by omega) (by omega) (by omega) (by omega)
    simp only [rdX]
    split
    · unfold upd; split
      · exact hc
      · exact ih
    · exact ih
/-! ## Bounds -/
def cvR (u : Tb) : Int := (u.C 0 0 + u.den - 1).tdiv u.den
def cvP (u : Tb) : Int := (u.C 0 0 + rmd (-(u.C 0 0)) u.den).tdiv u.den
theorem cv_eq {u : Tb} (hd : 1 ≤ u.den) (h0 : 0 ≤ u.C 0 0) : cvP u = cvR u := by
  unfold cvP cvR
  rw [rmd_emod hd]
  have h1 := Int.emod_nonneg (-(u.C 0 0)) (show u.den ≠ 0 by omega)
  have h2 := Int.emod_lt_of_pos (-(u.C 0 0)) (show 0 < u.den by omega)
  rw [Int.tdiv_eq_ediv_of_nonneg (by omega), Int.tdiv_eq_ediv_of_nonneg (by omega)]
  have h3 := Int.mul_ediv_add_emod (-(u.C 0 0)) u.den
  generalize hq : -(u.C 0 0) / u.den = q at h3
  have e : u.C 0 0 + -(u.C 0 0) % u.den = u.den * (-q) := by rw [Int.mul_neg]; omega
  rw [e, Int.mul_ediv_cancel_left _ (by omega)]
  symm
  rw [Int.ediv_eq_iff_of_pos (by omega)]
  have e2 : -q * u.den = u.den * -q := Int.mul_comm _ _
  rw [e2]
  generalize u.den * -q = P at e
  constructor <;> omega
def bdF (c : Tb → Int) (us : List Tb) : Int → Int := fun k => (us.map c).getD k.toNat 0
theorem bdF_snoc (c : Tb → Int) (us : List Tb) (u : Tb) {k : Int} (k0 : 0 ≤ k) (k1 : k < us.length + 1) : snoc (bdF c us) us.length (c u) k = bdF c (us ++ [u]) k := by
  unfold bdF
  rw [List.map_append]
  by_cases e : k < us.length
  · rw [snoc_lt e, List.getD_eq_getElem?_getD, List.getD_eq_getElem?_getD, List.getElem?_append_left (by rw [List.length_map]; omega)]
  · rw [snoc_at e, List.getD_eq_getElem?_getD, List.getElem?_append_right (by rw [List.length_map]; omega)]
    rw [List.length_map, show k.toNat - us.length = 0 by omega]; rfl
/-- What Bounds returns (c: how a value is rounded up). -/
def BoundsR (c : Tb → Int) (p : Lp) (most n : Int) (f : Int → Int) (e : Int) : Prop :=
  (¬ (0 ≤ most ∧ most ≤ 16) ∧ n = 0 ∧ e = 2) ∨
  (0 ≤ most ∧ most ≤ 16 ∧ e ≠ 0 ∧ n = 0 ∧ ∃ us t e', Rn p us t e' ∧ (us.length : Int) ≤ most ∧ ((e' = e ∧ e' ≠ 0) ∨ (e' = 0 ∧ ∃ u, OptR t u e)) ∧ ¬ (e' = 9 ∧ 0 < us.length ∧ p.m + us.length > 16)) ∨
  (0 ≤ most ∧ most ≤ 16 ∧ e = 0 ∧ ∃ us t u, Rn p us t 0 ∧ OptR t u 0 ∧ (us.length : Int) ≤ most ∧ (gfr u u.nb.toNat < 0 ∨ (us.length : Int) = most ∨ u.nb = 16) ∧ n = us.length + 1 ∧ ∀ k, 0 ≤ k → k < n → f k = bdF c (us ++ [u]) k)
/-- The same where a row too many was asked for. -/
theorem rn_limit {p : Lp} (hm : 0 ≤ p.m) {us : List Tb} {t : Tb} {e : Int} (h : Rn p us t e) (h0 : 0 < us.length) (hl : p.m + us.length > 16) : ∃ us' t' u, us = us' ++ [u] ∧ Rn p us' t' 0 ∧ OptR t' u 0 ∧ u.nb = 16 ∧ e = 9 := by
  cases h with
  | start => simp at h0
  | @cut us' t' u _ _ h ho hp hf ha =>
    rw [List.length_append, List.length_singleton] at hl
    have h1 := h.len rfl hm
    have h2 := ho.prp.2
    have h3 := hp.m2
    have hr := gfr_rng u u.nb.toNat
    rcases ha with ⟨a, _⟩ | ⟨_, a, _⟩ | ⟨_, _, _, a, _⟩ | ⟨_, _, _, _, a, _, b⟩ | ⟨_, _, _, _, a, _⟩
    · exact absurd hp a
    · exact absurd ⟨hf, by omega⟩ a
    · exact absurd a ((gfr_law u u.nb.toNat).2 hf).2
    · exact ⟨us', t', u, rfl, h, ho, by omega, b⟩
    · omega
theorem bdF_congr {p : Lp} (hm : 0 ≤ p.m) {us : List Tb} {t u : Tb} (h : Rn p us t 0) (ho : OptR t u 0) (k : Int) : bdF cvP (us ++ [u]) k = bdF cvR (us ++ [u]) k := by
  have key : ∀ {us : List Tb} {t : Tb} {e : Int}, Rn p us t e → ∀ x ∈ us, cvP x = cvR x := fun h => by
    induction h with
    | start => intro x hx; cases hx
    | @cut us0 t0 u0 _ _ h ho hp hf ha ih =>
      intro x hx
      rcases List.mem_append.1 hx with hx | hx
      · exact ih x hx
      · obtain rfl := List.mem_singleton.1 hx
        exact cv_eq hp.d1 (gval_nn hm h ho (by have := h.len rfl hm; have := ho.prp.2; omega))
  have e : (us ++ [u]).map cvP = (us ++ [u]).map cvR := List.map_congr_left fun x hx => by
    rcases List.mem_append.1 hx with hx | hx
    · exact key h x hx
    · obtain rfl := List.mem_singleton.1 hx
      exact cv_eq ho.prp.1.d1 (gval_nn hm h ho (by have := h.len rfl hm; have := ho.prp.2; omega))
  unfold bdF
  rw [e]
/-- Two runs that end, or are broken off behind the same number of cuts. -/
theorem Rn.same2 {p : Lp} (hm : 0 ≤ p.m) {most : Int} {us us' : List Tb} {t t' : Tb} {e e' : Int} (h : Rn p us t e) (h' : Rn p us' t' e') (hl : (us.length : Int) ≤ most) (hl' : (us'.length : Int) ≤ most)
    (hE : RnEnd t e ∨ (e = 0 ∧ ∃ u, OptR t u 0 ∧ ((us.length : Int) = most ∨ u.nb = 16))) (hE' : RnEnd t' e' ∨ (e' = 0 ∧ ∃ u, OptR t' u 0 ∧ ((us'.length : Int) = most ∨ u.nb = 16)))
    (hx : ¬ (e = 9 ∧ 0 < us.length ∧ p.m + us.length > 16)) (hx' : ¬ (e' = 9 ∧ 0 < us'.length ∧ p.m + us'.length > 16)) : us = us' ∧ t = t' ∧ e = e' := by
  have go : ∀ {us us' : List Tb} {t t' : Tb} {e e' : Int}, Rn p us t e → Rn p us' t' e' → (us'.length : Int) ≤ most → (RnEnd t e ∨ (e = 0 ∧ ∃ u, OptR t u 0 ∧ ((us.length : Int) = most ∨ u.nb = 16))) →
      ¬ (e' = 9 ∧ 0 < us'.length ∧ p.m + us'.length > 16) → ¬ us.length < us'.length := fun {us us' t t' e e'} h h' hl' hE hx' hlt => by
    obtain ⟨us0, t0, u0, h1, h2, h3, h4⟩ := h'.part _ hlt
    obtain ⟨rfl, rfl, rfl⟩ := h.eqlen h2 h1.symm
    rcases hE with hE | ⟨_, u, ho, hb | hb⟩
    · exact hE.no rfl h3 h4
    · omega
    · obtain ⟨rfl, _⟩ := OptR.same ho h3
      have l1 := h.len rfl hm
      have l2 := ho.prp.2
      obtain ⟨_, _, _, _, _, _, _, l3⟩ := rn_limit hm h' (by omega) (by omega)
      exact hx' ⟨l3, by omega, by omega⟩
  have n1 := go h h' hl' hE hx'
  have n2 := go h' h hl hE' hx
  exact h.eqlen h' (by omega)
theorem BoundsR.same {p : Lp} (hm : 0 ≤ p.m) {most n n' e e' : Int} {f f' : Int → Int} (h : BoundsR cvP p most n f e) (h' : BoundsR cvR p most n' f' e') : n = n' ∧ (∀ j, 0 ≤ j → j < n → f j = f' j) ∧ e = e' := by
  have hz : ∀ {us : List Tb}, ¬ ((0 : Int) = 9 ∧ 0 < us.length ∧ p.m + us.length > 16) := fun h => by omega
  have endE : ∀ {us : List Tb} {t : Tb} {e e0 : Int}, ((e0 = e ∧ e0 ≠ 0) ∨ (e0 = 0 ∧ ∃ u, OptR t u e)) → e ≠ 0 → RnEnd t e0 := fun h he => by
    rcases h with ⟨_, h⟩ | ⟨h, u, ho⟩
    · exact .inl h
    · exact .inr (.inl ⟨u, _, ho, he⟩)
  have endU : ∀ {us : List Tb} {t u : Tb}, OptR t u 0 → (gfr u u.nb.toNat < 0 ∨ (us.length : Int) = most ∨ u.nb = 16) → (RnEnd t 0 ∨ ((0 : Int) = 0 ∧ ∃ u, OptR t u 0 ∧ ((us.length : Int) = most ∨ u.nb = 16))) := fun {us t u} ho h => by
    rcases h with h | h
    · exact .inl (.inr (.inr ⟨u, ho, h⟩))
    · exact .inr ⟨rfl, u, ho, h⟩
  rcases h with ⟨h1, h2, h3⟩ | ⟨h1, h2, he, h3, us, t, e0, hr, hl, hc, hx⟩ | ⟨h1, h2, he, us, t, u, hr, ho, hl, hb, h3, h4⟩ <;> rcases h' with ⟨g1, g2, g3⟩ | ⟨g1, g2, ge, g3, us', t', e1, gr, gl, gc, gx⟩ | ⟨g1, g2, ge, us', t', u', gr, go, gl, gb, g3, g4⟩
  · exact ⟨by omega, fun j j0 j1 => by omega, by omega⟩
  · exact absurd ⟨g1, g2⟩ h1
  · exact absurd ⟨g1, g2⟩ h1
  · exact absurd ⟨h1, h2⟩ g1
  · obtain ⟨rfl, rfl, rfl⟩ := hr.same2 hm gr hl gl (.inl (endE (us := us) hc he)) (.inl (endE (us := us) gc ge)) hx gx
    refine ⟨by omega, fun j j0 j1 => by omega, ?_⟩
    rcases hc with ⟨a, b⟩ | ⟨a, u1, b⟩ <;> rcases gc with ⟨c, d⟩ | ⟨c, u2, d⟩
    · omega
    · omega
    · omega
    · exact (OptR.same b d).2
  · obtain ⟨rfl, rfl, rfl⟩ := hr.same2 hm gr hl gl (.inl (endE (us := us) hc he)) (endU go gb) hx hz
    rcases hc with ⟨a, b⟩ | ⟨a, u1, b⟩
    · exact absurd rfl b
    · exact absurd (OptR.same go b).2.symm he
  · exact absurd ⟨h1, h2⟩ g1
  · obtain ⟨rfl, rfl, rfl⟩ := hr.same2 hm gr hl gl (endU ho hb) (.inl (endE (us := us) gc ge)) hz gx
    rcases gc with ⟨a, b⟩ | ⟨a, u1, b⟩
    · exact absurd rfl b
    · exact absurd (OptR.same ho b).2.symm ge
  · obtain ⟨rfl, rfl, _⟩ := hr.same2 hm gr hl gl (endU ho hb) (endU go gb) hz hz
    obtain ⟨rfl, _⟩ := OptR.same ho go
    exact ⟨by omega, fun j j0 j1 => by rw [h4 j j0 j1, g4 j j0 (by omega)]; exact bdF_congr hm hr ho j, by omega⟩

end Go.Proofs.Ytelfplepnodbgaa
