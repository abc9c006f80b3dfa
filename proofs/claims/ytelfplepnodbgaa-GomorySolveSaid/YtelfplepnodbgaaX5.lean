/- What Solve, of gomory, returns, in plain words. -/
import Derived.Test.YtelfplepnodbgaaGc
import Derived.Test.YtelfplepnodbgaaX4
import Derived.Test.YtelfplepnodbgaaFz
namespace Go.Proofs.Ytelfplepnodbgaa
open Go Go.RowKit Go.Proofs.Gw
set_option linter.unusedVariables false

def GX.zer : GX := ⟨Tb.zero, .slice none 0 0, .slice none 0 0, .slice none 0 0, fun _ => undef, False, 0⟩
def lastX (s : List GX) : GX := s.getLast?.getD GX.zer
theorem lastX_snoc (s : List GX) (x : GX) : lastX (s ++ [x]) = x := by simp [lastX]
open Classical in
noncomputable def ctX : List GX → Int
  | [] => 0
  | y :: s => (if y.fr then 1 else 0) + ctX s
theorem ctX_snoc (s : List GX) (x : GX) : (x.fr → ctX (s ++ [x]) = ctX s + 1) ∧ (¬ x.fr → ctX (s ++ [x]) = ctX s) := by
  induction s with
  | nil => exact ⟨fun h => by simp [ctX, h], fun h => by simp [ctX, h]⟩
  | cons y s ih =>
    refine ⟨fun h => ?_, fun h => ?_⟩
    · have := ih.1 h; simp only [List.cons_append, ctX]; omega
    · have := ih.2 h; simp only [List.cons_append, ctX]; omega
theorem ctX_ok : ∀ {s : List GX}, GOk s → ctX s = s.length
  | [], _ => rfl
  | y :: s, h => by
    have h1 := ctX_ok (s := s) fun z hz => h z (by simp [hz])
    simp only [ctX, h1, (h y (by simp)).1, if_true, List.length_cons]; omega
theorem ctX_rng : ∀ s : List GX, 0 ≤ ctX s ∧ ctX s ≤ s.length
  | [] => by simp [ctX]
  | y :: s => by
    have h1 := ctX_rng s
    simp only [ctX, List.length_cons]; split <;> omega
theorem Rn.len {p : Lp} {us : List Tb} {t : Tb} {e : Int} (h : Rn p us t e) (he : e = 0) (hp : 0 ≤ p.m) : (t.nb = p.m + us.length) := by
  induction h with
  | start h => rcases h with ⟨_, _, h⟩ | ⟨_, rfl, _⟩; exact absurd he (by omega); simp [startT]
  | cut h ho hp' hf ha ih =>
    have h1 := ih rfl
    have h2 := ha.nb he
    have h3 := ho.prp.2
    simp only [List.length_append, List.length_singleton]; omega
/-- What Solve, of gomory, returns. -/
def GSolveR (p : Lp) (n : Int) (f : Int → Int) (val cuts e : Int) : Prop :=
  (e ≠ 0 ∧ n = 0 ∧ val = 0 ∧ cuts = 0 ∧ ∃ us t e', Rn p us t e' ∧ ((e' = e ∧ e' ≠ 0) ∨ (e' = 0 ∧ ∃ u, OptR t u e))) ∨
    (e = 0 ∧ ∃ us t u, Rn p us t 0 ∧ OptR t u 0 ∧ TPrp u ∧ gfr u u.nb.toNat < 0 ∧ cuts = (us.length : Int) ∧ n = u.nf ∧ (∀ j, 0 ≤ j → j < n → f j = (bas u u.nb.toNat j).tdiv u.den) ∧ val = dotp f p.c n.toNat)
def qX (u : Tb) : Nat → Int → Int
  | 0 => fun _ => 0
  | k + 1 => if u.B k < u.vars then upd (qX u k) (u.B k) ((u.C (k + 1) 0).tdiv u.den) else qX u k
theorem qX_next (u : Tb) {i : Int} (h : 0 ≤ i) : qX u (i + 1).toNat = if u.B i < u.vars then upd (qX u i.toNat) (u.B i) ((u.C (i + 1) 0).tdiv u.den) else qX u i.toNat := by
  obtain ⟨k, rfl⟩ := Int.eq_ofNat_of_zero_le h
  simp only [Int.toNat_natCast, show ((k : Int) + 1).toNat = k + 1 by omega, qX]
theorem qX_bas (u : Tb) {j : Int} (hj : j < u.vars) (K : Nat) : qX u K j = (bas u K j).tdiv u.den := by
  rw [← rdX_bas u hj]
  induction K with
  | zero => simp [qX, rdX]
  | succ k ih =>
    simp only [qX, rdX]
    split
    · unfold upd; split
      · rfl
      · exact ih
    · exact ih
theorem qX_rng {u : Tb} (hp : TPrp u) (j : Int) : ∀ K : Nat, (K : Int) ≤ u.nb → -1073741824 ≤ qX u K j ∧ qX u K j ≤ 1073741824
  | 0, _ => by simp [qX]
  | k + 1, hk => by
    have ih := qX_rng hp j k (by omega)
    have h0 := hp.n1
    have hc := hp.cell (i := k + 1) (j := 0) (by omega) (by omega) (by omega) (by omega)
    have := tdiv_abs hp.d1 hc
    simp only [qX]
    split
    · unfold upd; split
      · exact this
      · exact ih
    · exact ih
theorem OptR.dims {t u : Tb} (h : OptR t u 0) : u.nf = t.nf ∧ u.vars = t.vars := by
  obtain ⟨u', f, hr, ⟨hf, _, rfl⟩ | ⟨hf, he, _⟩⟩ := h
  · exact ⟨hr.dims.2.1, hr.dims.2.2.2⟩
  · exact absurd he.symm hf
theorem Rn.dims {p : Lp} {us : List Tb} {t : Tb} {e : Int} (h : Rn p us t e) (he : e = 0) : t.nf = p.n ∧ t.vars = p.n := by
  induction h with
  | start h => rcases h with ⟨_, _, h⟩ | ⟨h, rfl, _⟩; exact absurd he (by omega); exact ⟨rfl, rfl⟩
  | cut h ho hp' hf ha ih =>
    have h1 := ih rfl
    have h2 := ho.dims
    rcases ha with ⟨_, _, h⟩ | ⟨_, _, _, h⟩ | ⟨_, _, _, _, _, h⟩ | ⟨_, _, _, _, _, _, h⟩ | ⟨_, _, _, _, _, rfl, _⟩ <;> first | omega | exact ⟨by show _ = _; unfold addT; dsimp only; omega, by show _ = _; unfold addT; dsimp only; omega⟩
theorem Rn.lok {p : Lp} {us : List Tb} {t : Tb} {e : Int} (h : Rn p us t e) (he : e = 0) : LOk p := by
  induction h with
  | start h => rcases h with ⟨_, _, h⟩ | ⟨h, _⟩; exact absurd he (by omega); exact h
  | cut h ho hp' hf ha ih => exact ih rfl
theorem GPre.sB {p : Lp} {s : List GX} {x : GX} {rest : Gw.Frame} (h : GPre p s x rest) : Slh x.vB x.t.nb := by obtain ⟨_, _, _, _, h, _⟩ := h; exact h
theorem GPre.sF {p : Lp} {s : List GX} {x : GX} {rest : Gw.Frame} (h : GPre p s x rest) : Slh x.vF x.t.nf := by obtain ⟨_, _, _, _, _, h, _⟩ := h; exact h
theorem GPre.sC {p : Lp} {s : List GX} {x : GX} {rest : Gw.Frame} (h : GPre p s x rest) : Slh x.vC x.t.nc := by obtain ⟨_, _, _, _, _, _, h, _⟩ := h; exact h
theorem GPre.len {p : Lp} {s : List GX} {x : GX} {rest : Gw.Frame} (h : GPre p s x rest) (hp : 0 ≤ p.m) : (s.length : Int) ≤ 100 := by
  obtain ⟨t, e, hr, hok, _, _, _, hx⟩ := h
  have key : ∀ {us : List Tb} {t : Tb} {e : Int}, Rn p us t e → (us.length : Int) ≤ 17 := fun h => by
    cases h with
    | start h => simp
    | cut h ho hq hf ha =>
      have h1 := h.len rfl hp
      have h2 := ho.prp
      have h3 := h2.1.m2
      simp only [List.length_append, List.length_singleton]; omega
  have := key hr
  rw [List.length_map] at this; omega

end Go.Proofs.Ytelfplepnodbgaa
