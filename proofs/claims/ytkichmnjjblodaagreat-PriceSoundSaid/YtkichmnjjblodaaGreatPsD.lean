/- Part 4 of the texts that the proof needs. -/
import Derived.Test.YtkichmnjjblodaaGreatPsC
import Derived.ProofKit
import Derived.OpenShut
import Derived.ChangeOld
import Derived.SizedLaws
import Derived.Lib.SmallJoins
import Derived.Deep.Slices
set_option linter.unusedVariables false
set_option linter.unusedSimpArgs false
set_option maxRecDepth 20000
set_option maxHeartbeats 4000000
namespace Go.Proofs.Gw
open Go Go.RowKit
def lsum (L : List (Int → Int)) (j : Int) : Int := match L with
  | [] => 0
  | a :: L => a j + lsum L j
def LFit (p : Prob) (L : List (Int → Int)) : Prop := ∀ a ∈ L, FitsP p p.m a
theorem lsum_app (L M : List (Int → Int)) (j : Int) : lsum (L ++ M) j = lsum L j + lsum M j := by
  induction L with
  | nil => simp [lsum]
  | cons a L ih => simp only [List.cons_append, lsum, ih]; omega
theorem LFit.nn {p : Prob} {L : List (Int → Int)} (h : LFit p L) {j : Int} (j0 : 0 ≤ j) (j1 : j < p.m) : 0 ≤ lsum L j := by
  induction L with
  | nil => exact Int.le_refl _
  | cons a L ih =>
    have h1 := (h a (List.mem_cons_self ..)).all j j0 j1
    have h2 := ih fun b hb => h b (List.mem_cons_of_mem _ hb)
    simp only [lsum]; omega
theorem lsum_pos {L : List (Int → Int)} {j : Int} (h : 1 ≤ lsum L j) : ∃ L1 a L2, L = L1 ++ a :: L2 ∧ 1 ≤ a j := by
  induction L with
  | nil => simp [lsum] at h
  | cons a L ih =>
    by_cases e : 1 ≤ a j
    · exact ⟨[], a, L, rfl, e⟩
    · simp only [lsum] at h
      obtain ⟨L1, b, L2, rfl, h2⟩ := ih (by omega)
      exact ⟨a :: L1, b, L2, rfl, h2⟩
theorem sumTo_cons (f : Int → Int) : ∀ n : Nat, sumTo f (n + 1) = f 0 + sumTo (fun i => f (i + 1)) n
  | 0 => by simp [sumTo]
  | n + 1 => by
    have h := sumTo_cons f n
    show sumTo f (n + 1) + f ((n + 1 : Nat) : Int) = f 0 + (sumTo (fun i => f (i + 1)) n + f ((n : Int) + 1))
    rw [h, show ((n + 1 : Nat) : Int) = (n : Int) + 1 by omega]; omega
def patL (L : List (Int → Int)) (i : Int) : Int → Int := L.getD i.toNat (fun _ => 0)
theorem lsum_made (k : Int) : ∀ L : List (Int → Int), MadeTo (patL L) (fun _ => 1) L.length k = lsum L k
  | [] => rfl
  | a :: L => by
    unfold MadeTo
    rw [List.length_cons, sumTo_cons]
    have e : sumTo (fun i => patL (a :: L) (i + 1) k * 1) L.length = sumTo (fun i => patL L i k * 1) L.length := sumTo_congr fun i i0 i1 => by
      unfold patL; rw [show (i + 1).toNat = i.toNat + 1 by omega]; rfl
    have h := lsum_made k L
    unfold MadeTo at h
    rw [e, h]
    show (a k) * 1 + _ = _
    simp [lsum]
theorem patL_mem {L : List (Int → Int)} {i : Int} (i0 : 0 ≤ i) (i1 : i < L.length) : patL L i ∈ L := by
  unfold patL
  rw [List.getD_eq_getElem?_getD, List.getElem?_eq_getElem (by omega)]
  exact List.getElem_mem _
theorem bars_bnd {p : Prob} {n b : Int} {y : Int → Int} {q : Int} (h : Chk p n y q = 0) (hb : b ≤ 1000) (hbn : b < BndOf p n y q) {L : List (Int → Int)} (hL : LFit p L) (hc : ∀ j, 0 ≤ j → j < p.m → p.D j ≤ lsum L j) : b < L.length := by
  by_cases hl : 1000 < L.length
  · omega
  · have hM : MeetsP p L.length (fun _ => p.m) (patL L) (fun _ => 1) :=
      ⟨⟨(chk_ok h).1, by omega, fun i i0 i1 => ⟨hL _ (patL_mem i0 i1), by omega, by omega⟩⟩, fun k k0 k1 => by
        rw [show ((L.length : Int)).toNat = L.length by omega, lsum_made]; exact hc k k0 k1⟩
    have h1 := sound_law h (by omega) hM
    rw [show ((L.length : Int)).toNat = L.length by omega, sumTo_const] at h1
    omega
def rep (c : Nat) (a : Int → Int) : List (Int → Int) := List.replicate c a
theorem lsum_rep (a : Int → Int) (j : Int) : ∀ c : Nat, lsum (rep c a) j = a j * c
  | 0 => by simp [rep, lsum]
  | c + 1 => by
    have h := lsum_rep a j c
    show a j + lsum (rep c a) j = _
    rw [h, Int.natCast_add, Int.mul_add]; simp; omega
theorem plan_list {p : Prob} {len : Int → Int} {pt : Int → Int → Int} {cnt : Int → Int} : ∀ n : Nat, (∀ i, 0 ≤ i → i < (n : Int) → FitsP p (len i) (pt i) ∧ 0 ≤ cnt i) → ∃ L, LFit p L ∧ (∀ j, lsum L j = MadeTo pt cnt n j) ∧ (L.length : Int) = sumTo cnt n
  | 0, _ => ⟨[], fun a ha => absurd ha (by simp), fun _ => rfl, rfl⟩
  | n + 1, h => by
    obtain ⟨L, h1, h2, h3⟩ := plan_list n fun i i0 i1 => h i i0 (by omega)
    obtain ⟨h4, h5⟩ := h n (by omega) (by omega)
    refine ⟨L ++ rep (cnt n).toNat (pt n), fun a ha => ?_, fun j => ?_, ?_⟩
    · rcases List.mem_append.1 ha with ha | ha
      · exact h1 a ha
      · rw [(List.mem_replicate.1 ha).2]
        have := h4; rw [this.eq] at this; exact this
    · rw [lsum_app, h2, lsum_rep, Int.toNat_of_nonneg h5]; rfl
    · rw [List.length_append, Int.natCast_add, h3]; unfold rep; rw [List.length_replicate, Int.toNat_of_nonneg h5]; rfl
theorem used_mono {p : Prob} (hp : p.Ok) {x : Int → Int} (hx : ∀ i, 0 ≤ i → i < p.m → 0 ≤ x i) : ∀ (k : Nat) {i : Int}, 0 ≤ i → i + k ≤ p.m → Used p x i.toNat ≤ Used p x (i + k).toNat
  | 0, i, _, _ => by simp
  | k + 1, i, i0, h => by
    have h1 := used_mono hp hx k i0 (by omega)
    have h2 : Used p x (i + k + 1).toNat = Used p x (i + k).toNat + x (i + k) * (p.L (i + k) + p.kerf) := sumTo_next _ (by omega)
    have h3 := hp.all (i + k) (by omega) (by omega)
    unfold Prob.each at h3
    have h4 := hp.k1
    have h5 : 0 ≤ x (i + k) * (p.L (i + k) + p.kerf) := Int.mul_nonneg (hx _ (by omega) (by omega)) (by omega)
    rw [show i + ((k + 1 : Nat) : Int) = i + k + 1 by omega, h2]; omega
theorem exI_mem {p : Prob} (hp : p.Ok) {w : Int} {x : Int → Int} (hx : MPat p w x) : ∀ (j : Nat) {i l : Int} {a : Int → Int}, (p.m - i).toNat = j → 0 ≤ i → i ≤ p.m → Pfx p i a l → (∀ k, k < i → x k = a k) → (i ≤ w → w < p.m → 1 ≤ x w) → x ∈ exI p w i a l
  | 0, i, l, a, hj, h0, h1, h, he, hw => by
    have hi : i = p.m := by omega
    have e : x = a := funext fun k => by
      by_cases hk : k < i
      · exact he k hk
      · rw [h.zero k (by omega), hx.zero k (by omega)]
    subst e
    rw [exI_yes hi (by have := h.left; rw [hi] at this; rw [this]; exact hx.maxi)]
    exact List.mem_singleton.2 rfl
  | j + 1, i, l, a, hj, h0, h1, h, he, hw => by
    rw [exI_step h0 (by omega)]
    have hr := hx.rng i h0 (by omega)
    have hs := hp.all i h0 (by omega)
    unfold Prob.each at hs
    have hk := hp.k1
    have hu : Used p x (i + 1).toNat = Used p x i.toNat + x i * (p.L i + p.kerf) := sumTo_next _ h0
    have hm := used_mono hp (fun k k0 k1 => (hx.rng k k0 k1).1) (p.m - (i + 1)).toNat (i := i + 1) (by omega) (by omega)
    rw [show i + 1 + ((p.m - (i + 1)).toNat : Int) = p.m by omega] at hm
    have ha : Used p x i.toNat = Used p a i.toNat := sumTo_congr fun k k0 k1 => by rw [he k (by omega)]
    have hl := h.left
    have hxu := hx.used
    have hle : x i * (p.L i + p.kerf) ≤ l := by omega
    have h2 : x i ≤ most p i l := by
      unfold most
      have : x i ≤ l.tdiv (p.L i + p.kerf) := by
        rw [Int.tdiv_eq_ediv_of_nonneg h.l0]
        exact (Int.le_ediv_iff_mul_le (by omega)).2 hle
      omega
    have hls : least w i ≤ x i := by
      unfold least
      by_cases e : w = i
      · rw [if_pos e, ← e]; exact hw (by omega) (by omega)
      · rw [if_neg e]; exact hr.1
    refine dn_mem hls (by omega) (exI_mem hp hx j (by omega) (by omega) (by omega) (h.step hp h0 (by omega) hr.1 h2) (fun k hk => ?_) fun q1 q2 => hw (by omega) q2)
    by_cases e : k = i
    · rw [e, upd_self]
    · rw [upd_ne _ _ e]; exact he k (by omega)
theorem MX_mem {p : Prob} (hp : p.Ok) {w : Int} {x : Int → Int} (hx : MPat p w x) (hw : 0 ≤ w → w < p.m → 1 ≤ x w) : x ∈ MX p w :=
  exI_mem hp hx _ rfl (Int.le_refl 0) (by have := hp.m1; omega) (Pfx.start hp) (fun k hk => by rw [hx.zero k (by omega)]) hw
theorem used_inc {p : Prob} {f : Int → Int} {i : Int} (h0 : 0 ≤ i) : ∀ {n : Nat}, i < (n : Int) → Used p (upd f i (f i + 1)) n = Used p f n + (p.L i + p.kerf)
  | 0, h => by omega
  | n + 1, h => by
    show sumTo _ (n + 1) = sumTo _ (n + 1) + _
    simp only [sumTo]
    by_cases e : i = n
    · subst e
      have : sumTo (fun j => upd f (n : Int) (f n + 1) j * (p.L j + p.kerf)) n = sumTo (fun j => f j * (p.L j + p.kerf)) n := sumTo_congr fun j j0 j1 => by rw [upd_ne _ _ (by omega)]
      rw [this, upd_self, Int.add_mul, Int.one_mul]; omega
    · have ih := used_inc (p := p) (f := f) h0 (n := n) (by omega)
      unfold Used at ih
      rw [ih, upd_ne _ _ (fun h => e h.symm)]; omega
theorem max_above {p : Prob} (hp : p.Ok) {w : Int} : ∀ (c : Nat) {x : Int → Int}, (p.stock + p.kerf - Used p x p.m.toNat).toNat = c → (∀ k, 0 ≤ k → k < p.m → 0 ≤ x k ∧ x k ≤ p.D k) → (∀ k, k < 0 ∨ p.m ≤ k → x k = 0) → Used p x p.m.toNat ≤ p.stock + p.kerf → (∃ i, 0 ≤ i ∧ i < p.m ∧ 0 < x i) → ∃ z, MPat p w z ∧ ∀ k, x k ≤ z k := by
  intro c
  induction c using Nat.strongRecOn with
  | _ c ih =>
    intro x hc hr hz hu hp0
    by_cases hm : ∀ i, 0 ≤ i → i < p.m → x i < p.D i → p.stock + p.kerf - Used p x p.m.toNat < p.L i + p.kerf
    · exact ⟨x, ⟨hr, hz, hu, hp0, hm⟩, fun k => Int.le_refl _⟩
    · obtain ⟨i, hi⟩ := Classical.not_forall.1 hm
      obtain ⟨i0, hi⟩ := Classical.not_forall.1 hi
      obtain ⟨i1, hi⟩ := Classical.not_forall.1 hi
      obtain ⟨i2, i3⟩ := Classical.not_forall.1 hi
      have he := used_inc (p := p) (f := x) i0 (n := p.m.toNat) (by omega)
      have hs := hp.all i i0 i1
      unfold Prob.each at hs
      have hk := hp.k1
      obtain ⟨z, h1, h2⟩ := ih _ (by omega) (x := upd x i (x i + 1)) rfl (fun k k0 k1 => by
          by_cases e : k = i
          · rw [e, upd_self]; have := hr i i0 i1; omega
          · rw [upd_ne _ _ e]; exact hr k k0 k1) (fun k hk => by rw [upd_ne _ _ (by omega)]; exact hz k hk) (by omega)
        ⟨i, i0, i1, by rw [upd_self]; have := hr i i0 i1; omega⟩
      refine ⟨z, h1, fun k => ?_⟩
      have h3 := h2 k
      by_cases e : k = i
      · rw [e, upd_self] at h3; rw [e]; omega
      · rw [upd_ne _ _ e] at h3; exact h3
theorem bar_below {p : Prob} {w : Int} {a : Int → Int} (ha : FitsP p p.m a) (w0 : 0 ≤ w) (w1 : w < p.m) (hw : 1 ≤ a w) (hd : 1 ≤ p.D w) : ∃ i, 0 ≤ i ∧ i < ((MX p w).length : Int) ∧ ∀ j, 0 ≤ j → j < p.m → min (a j) (p.D j) ≤ pat0 (MX p w) i j := by
  have hp := ha.ok
  obtain ⟨x, hx, hx0⟩ : ∃ x : Int → Int, (∀ j, 0 ≤ j → j < p.m → x j = min (a j) (p.D j)) ∧ ∀ j, j < 0 ∨ p.m ≤ j → x j = 0 :=
    ⟨fun j => if 0 ≤ j ∧ j < p.m then min (a j) (p.D j) else 0, fun j j0 j1 => if_pos ⟨j0, j1⟩, fun j hj => if_neg (by omega)⟩
  have hu : Used p x p.m.toNat ≤ p.stock + p.kerf := by
    refine Int.le_trans (sumTo_le fun j j0 j1 => ?_) ha.used
    rw [hx j j0 (by omega)]
    have h2 := hp.all j j0 (by omega)
    unfold Prob.each at h2
    have hk := hp.k1
    exact Int.mul_le_mul_of_nonneg_right (by omega) (by omega)
  obtain ⟨z, h1, h2⟩ := max_above hp (w := w) _ rfl (fun k k0 k1 => by
      rw [hx k k0 k1]
      have h2 := hp.all k k0 k1
      unfold Prob.each at h2
      have := ha.all k k0 k1
      omega) hx0 hu ⟨w, w0, w1, by rw [hx w w0 w1]; omega⟩
  have h3 : z ∈ MX p w := MX_mem hp h1 fun _ _ => by
    have := h2 w; rw [hx w w0 w1] at this; omega
  obtain ⟨n, hn, e⟩ := List.mem_iff_getElem.1 h3
  refine ⟨n, by omega, by omega, fun j j0 j1 => ?_⟩
  have h4 := h2 j
  rw [hx j j0 j1] at h4
  unfold pat0
  rw [show ((n : Int)).toNat = n by omega, List.getD_eq_getElem?_getD, List.getElem?_eq_getElem hn, Option.getD_some, e]
  exact h4
end Go.Proofs.Gw
namespace Go.Proofs.Gw
open Go Go.RowKit
def Able (p : Prob) (n : Int) (bs : Int → Int → Int) : Prop := ∃ A : Int → Int → Int, (∀ k j, 0 ≤ A k j) ∧ (∀ j, 0 ≤ j → j < p.m → sumTo (fun k => A k j) n.toNat = p.D j) ∧ ∀ k, 0 ≤ k → k < n → Used p (fun j => bs k j + A k j) p.m.toNat ≤ p.stock + p.kerf
def BFit (p : Prob) (n : Int) (bs : Int → Int → Int) : Prop := ∀ k, 0 ≤ k → k < n → (∀ j, 0 ≤ j → j < p.m → 0 ≤ bs k j ∧ bs k j ≤ 2000) ∧ Used p (bs k) p.m.toNat ≤ p.stock + p.kerf
def SameB (m : Int) (f g : Int → Int) : Prop := ∀ j, 0 ≤ j → j < m → f j = g j
def put1 (bs : Int → Int → Int) (k i : Int) : Int → Int → Int := upd bs k (upd (bs k) i (bs k i + 1))
def Prob.less1 (p : Prob) (i : Int) : Prob := p.with (upd p.D i (p.D i - 1))
theorem less1_ok {p : Prob} (hp : p.Ok) {i : Int} (hd : 1 ≤ p.D i) : (p.less1 i).Ok := less_ok hp fun k k0 k1 => by
  have he := hp.all k k0 (by rw [← hp.d]; exact k1)
  unfold Prob.each at he
  by_cases e : k = i
  · subst e; rw [upd_self]; omega
  · rw [upd_ne _ _ e]; omega
theorem sumTo_upd (f : Int → Int) {q y : Int} (q0 : 0 ≤ q) : ∀ {n : Nat}, q < n → sumTo (upd f q y) n = sumTo f n - f q + y
  | 0, h => by omega
  | n + 1, h => by
    simp only [sumTo]
    by_cases e : q = n
    · subst e
      have : sumTo (upd f (n : Int) y) n = sumTo f n := sumTo_congr fun j j0 j1 => by rw [upd_ne _ _ (by omega)]
      rw [this, upd_self]; omega
    · have ih := sumTo_upd f q0 (y := y) (n := n) (by omega)
      rw [ih, upd_ne _ _ (fun h => e h.symm)]; omega
theorem sumTo_pos {f : Int → Int} : ∀ {n : Nat}, 1 ≤ sumTo f n → ∃ k, 0 ≤ k ∧ k < (n : Int) ∧ 1 ≤ f k
  | 0, h => by simp [sumTo] at h
  | n + 1, h => by
    by_cases e : 1 ≤ f n
    · exact ⟨n, by omega, by omega, e⟩
    · simp only [sumTo] at h
      obtain ⟨k, h0, h1, h2⟩ := sumTo_pos (f := f) (n := n) (by omega)
      exact ⟨k, h0, by omega, h2⟩
theorem used_le {p : Prob} (hp : p.Ok) {x y : Int → Int} (h : ∀ j, 0 ≤ j → j < p.m → x j ≤ y j) : Used p x p.m.toNat ≤ Used p y p.m.toNat := sumTo_le fun j j0 j1 => by
  have h2 := hp.all j j0 (by omega)
  unfold Prob.each at h2
  have hk := hp.k1
  exact Int.mul_le_mul_of_nonneg_right (h j j0 (by omega)) (by omega)
theorem used_eq {p : Prob} {x y : Int → Int} (h : ∀ j, 0 ≤ j → j < p.m → x j = y j) : Used p x p.m.toNat = Used p y p.m.toNat := sumTo_congr fun j j0 j1 => by
  rw [h j j0 (by omega)]
theorem fit_small {p : Prob} (hp : p.Ok) {a : Int → Int} (h : ∀ j, 0 ≤ j → j < p.m → 0 ≤ a j) (hu : Used p a p.m.toNat ≤ p.stock + p.kerf) : FitsP p p.m a := by
  refine ⟨hp, rfl, fun j j0 j1 => ⟨h j j0 j1, ?_⟩, hu⟩
  have h1 := sumTo_one (f := fun i => a i * (p.L i + p.kerf)) (n := p.m.toNat) j0 (by omega) (fun i i0 i1 => by
    have h2 := hp.all i i0 (by omega)
    unfold Prob.each at h2
    exact Int.mul_nonneg (h i i0 (by omega)) (by have := hp.k1; omega))
  have h2 := hp.all j j0 j1
  unfold Prob.each at h2
  have hk := hp.k1; have hs := hp.s2
  apply Classical.byContradiction; intro hn
  have h3 : 2001 * (p.L j + p.kerf) ≤ a j * (p.L j + p.kerf) := Int.mul_le_mul_of_nonneg_right (by omega) (by omega)
  unfold Used at hu
  omega
theorem able_done {p : Prob} {n : Int} {bs : Int → Int → Int} (hb : BFit p n bs) (hd : ∀ j, 0 ≤ j → j < p.m → p.D j = 0) : Able p n bs :=
  ⟨fun _ _ => 0, fun _ _ => Int.le_refl _, fun j j0 j1 => by rw [hd j j0 j1]; exact sumTo_zero _, fun k k0 k1 => by
    simp only [Int.add_zero]; exact (hb k k0 k1).2⟩
theorem first_same (m : Int) (bs : Int → Int → Int) : ∀ (c : Nat) {k : Int}, k.toNat ≤ c → 0 ≤ k → ∃ q, 0 ≤ q ∧ q ≤ k ∧ SameB m (bs q) (bs k) ∧ ∀ r, 0 ≤ r → r < q → ¬ SameB m (bs r) (bs q)
  | 0, k, hc, h0 => ⟨k, h0, Int.le_refl _, fun _ _ _ => rfl, fun r r0 r1 => by omega⟩
  | c + 1, k, hc, h0 => by
    by_cases h : ∃ r, 0 ≤ r ∧ r < k ∧ SameB m (bs r) (bs k)
    · obtain ⟨r, r0, r1, hr⟩ := h
      obtain ⟨q, q0, q1, q2, q3⟩ := first_same m bs c (k := r) (by omega) r0
      exact ⟨q, q0, by omega, fun j j0 j1 => (q2 j j0 j1).trans (hr j j0 j1), q3⟩
    · exact ⟨k, h0, Int.le_refl _, fun _ _ _ => rfl, fun r r0 r1 hr => h ⟨r, r0, r1, hr⟩⟩
theorem able_fits {p : Prob} (hp : p.Ok) {n : Int} {bs : Int → Int → Int} (hb : BFit p n bs) {k i : Int} (k0 : 0 ≤ k) (k1 : k < n) (hf : FitsP p p.m (upd (bs k) i (bs k i + 1))) : BFit p n (put1 bs k i) := fun q q0 q1 => by
  unfold put1
  by_cases e : q = k
  · subst e; rw [upd_self]; exact ⟨fun j j0 j1 => hf.all j j0 j1, hf.used⟩
  · rw [upd_ne _ _ e]; exact hb q q0 q1
theorem able_back {p : Prob} {n : Int} {bs : Int → Int → Int} {k i : Int} (k0 : 0 ≤ k) (k1 : k < n) (i0 : 0 ≤ i) (h : Able (p.less1 i) n (put1 bs k i)) : Able p n bs := by
  obtain ⟨A, h1, h2, h3⟩ := h
  refine ⟨put1 A k i, fun q j => ?_, fun j j0 j1 => ?_, fun q q0 q1 => ?_⟩
  · unfold put1; by_cases e : q = k
    · subst e; rw [upd_self]; by_cases e2 : j = i
      · subst e2; rw [upd_self]; have := h1 q j; omega
      · rw [upd_ne _ _ e2]; exact h1 q j
    · rw [upd_ne _ _ e]; exact h1 q j
  · have h4 := h2 j j0 j1
    by_cases e : j = i
    · subst e
      have e2 : (fun x => put1 A k j x j) = upd (fun x => A x j) k (A k j + 1) := by
        funext x; unfold put1; by_cases ex : x = k
        · subst ex; rw [upd_self, upd_self, upd_self]
        · rw [upd_ne _ _ ex, upd_ne _ _ ex]
      rw [e2, sumTo_upd _ k0 (by omega), h4]
      show (upd p.D j (p.D j - 1)) j - _ + _ = _
      rw [upd_self]; omega
    · have e2 : (fun x => put1 A k i x j) = fun x => A x j := by
        funext x; unfold put1; by_cases ex : x = k
        · subst ex; rw [upd_self, upd_ne _ _ e]
        · rw [upd_ne _ _ ex]
      rw [e2, h4]
      show (upd p.D i (p.D i - 1)) j = _
      rw [upd_ne _ _ e]
  · refine Int.le_trans (Int.le_of_eq (used_eq fun j j0 j1 => ?_)) (h3 q q0 q1)
    unfold put1
    by_cases e : q = k
    · subst e; rw [upd_self, upd_self]; by_cases e2 : j = i
      · subst e2; rw [upd_self, upd_self]; omega
      · rw [upd_ne _ _ e2, upd_ne _ _ e2]
    · rw [upd_ne _ _ e, upd_ne _ _ e]
theorem able_fwd {p : Prob} (hp : p.Ok) {n : Int} (n0 : 0 ≤ n) {bs : Int → Int → Int} (hb : BFit p n bs) {i : Int} (i0 : 0 ≤ i) (i1 : i < p.m) (hd : 1 ≤ p.D i) (h : Able p n bs) :
    ∃ k, 0 ≤ k ∧ k < n ∧ (∀ r, 0 ≤ r → r < k → ¬ SameB p.m (bs r) (bs k)) ∧ FitsP p p.m (upd (bs k) i (bs k i + 1)) ∧ Able (p.less1 i) n (put1 bs k i) := by
  obtain ⟨A, h1, h2, h3⟩ := h
  obtain ⟨k, k0, k1, hk⟩ := sumTo_pos (f := fun k => A k i) (n := n.toNat) (by have := h2 i i0 i1; omega)
  replace k1 : k < n := by omega
  obtain ⟨q, q0, q1, q2, q3⟩ := first_same p.m bs k.toNat (k := k) (Nat.le_refl _) k0
  let B : Int → Int → Int := upd (upd A q (A k)) k (A q)
  have hBq : B q = A k := by
    show upd (upd A q (A k)) k (A q) q = A k
    by_cases e : q = k
    · subst e; rw [upd_self]
    · rw [upd_ne _ _ e, upd_self]
  have hB0 : ∀ x j, 0 ≤ B x j := fun x j => by
    show 0 ≤ upd (upd A q (A k)) k (A q) x j
    by_cases e : x = k
    · subst e; rw [upd_self]; exact h1 _ _
    · rw [upd_ne _ _ e]; by_cases e2 : x = q
      · subst e2; rw [upd_self]; exact h1 _ _
      · rw [upd_ne _ _ e2]; exact h1 _ _
  have hBs : ∀ j, sumTo (fun x => B x j) n.toNat = sumTo (fun x => A x j) n.toNat := fun j => by
    have e : (fun x => B x j) = upd (upd (fun x => A x j) q (A k j)) k (A q j) := by
      funext x
      show upd (upd A q (A k)) k (A q) x j = _
      unfold upd; split
      · rfl
      · split <;> rfl
    rw [e, sumTo_upd _ k0 (by omega), sumTo_upd _ q0 (by omega)]
    by_cases e : k = q
    · subst e; rw [upd_self]; omega
    · rw [upd_ne _ _ e]; omega
  have hBu : ∀ x, 0 ≤ x → x < n → Used p (fun j => bs x j + B x j) p.m.toNat ≤ p.stock + p.kerf := fun x x0 x1 => by
    by_cases e : x = q
    · subst e
      rw [hBq]
      refine Int.le_trans (Int.le_of_eq (used_eq fun j j0 j1 => ?_)) (h3 k k0 k1)
      rw [q2 j j0 j1]
    · by_cases e2 : x = k
      · subst e2
        have hx : B x = A q := by show upd (upd A q (A x)) x (A q) x = _; rw [upd_self]
        rw [hx]
        refine Int.le_trans (Int.le_of_eq (used_eq fun j j0 j1 => ?_)) (h3 q q0 (by omega))
        rw [q2 j j0 j1]
      · have hx : B x = A x := by show upd (upd A q (A k)) k (A q) x = _; rw [upd_ne _ _ e2, upd_ne _ _ e]
        rw [hx]; exact h3 x x0 x1
  have hqi : 1 ≤ B q i := by rw [hBq]; exact hk
  refine ⟨q, q0, by omega, q3, fit_small hp (fun j j0 j1 => ?_) ?_, upd B q (upd (B q) i (B q i - 1)), fun x j => ?_, fun j j0 j1 => ?_, fun x x0 x1 => ?_⟩
  · have := (hb q q0 (by omega)).1 j j0 j1
    by_cases e : j = i
    · subst e; rw [upd_self]; omega
    · rw [upd_ne _ _ e]; omega
  · refine Int.le_trans (used_le hp fun j j0 j1 => ?_) (hBu q q0 (by omega))
    have h5 := hB0 q j
    by_cases e : j = i
    · subst e; rw [upd_self]; omega
    · rw [upd_ne _ _ e]; omega
  · by_cases e : x = q
    · subst e; rw [upd_self]; by_cases e2 : j = i
      · subst e2; rw [upd_self]; omega
      · rw [upd_ne _ _ e2]; exact hB0 x j
    · rw [upd_ne _ _ e]; exact hB0 x j
  · have h4 := h2 j j0 j1
    have h5 := hBs j
    show _ = (upd p.D i (p.D i - 1)) j
    by_cases e : j = i
    · subst e
      have e2 : (fun x => upd B q (upd (B q) j (B q j - 1)) x j) = upd (fun x => B x j) q (B q j - 1) := by
        funext x; by_cases ex : x = q
        · subst ex; rw [upd_self, upd_self, upd_self]
        · rw [upd_ne _ _ ex, upd_ne _ _ ex]
      rw [e2, sumTo_upd _ q0 (by omega), upd_self]; omega
    · have e2 : (fun x => upd B q (upd (B q) i (B q i - 1)) x j) = fun x => B x j := by
        funext x; by_cases ex : x = q
        · subst ex; rw [upd_self, upd_ne _ _ e]
        · rw [upd_ne _ _ ex]
      rw [e2, upd_ne _ _ e]; omega
  · refine Int.le_trans (Int.le_of_eq (used_eq (p := p) fun j j0 j1 => ?_)) (hBu x x0 x1)
    unfold put1
    by_cases e : x = q
    · subst e; rw [upd_self, upd_self]; by_cases e2 : j = i
      · subst e2; rw [upd_self, upd_self]; omega
      · rw [upd_ne _ _ e2, upd_ne _ _ e2]
    · rw [upd_ne _ _ e, upd_ne _ _ e]
theorem able_bars {p : Prob} (hp : p.Ok) {n : Int} (n0 : 0 ≤ n) (h : Able p n (fun _ _ => 0)) : ∃ L, LFit p L ∧ (∀ j, 0 ≤ j → j < p.m → p.D j ≤ lsum L j) ∧ (L.length : Int) = n := by
  obtain ⟨A, h1, h2, h3⟩ := h
  obtain ⟨L, g1, g2, g3⟩ := plan_list (p := p) (len := fun _ => p.m) (pt := A) (cnt := fun _ => 1) n.toNat fun i i0 i1 => by
    refine ⟨fit_small hp (fun j j0 j1 => h1 i j) ?_, by omega⟩
    have := h3 i i0 (by omega)
    simpa using this
  refine ⟨L, g1, fun j j0 j1 => ?_, by rw [g3, sumTo_const]; omega⟩
  rw [g2, ← h2 j j0 j1]
  unfold MadeTo
  exact Int.le_of_eq (sumTo_congr fun k _ _ => by rw [Int.mul_one])
def npcs (p : Prob) : Int := sumTo p.D p.m.toNat
theorem npcs_rng {p : Prob} (hp : p.Ok) : 0 ≤ npcs p ∧ npcs p ≤ 20000 := by
  have h := sumTo_bound (f := p.D) (A := 1000) (n := p.m.toNat) (fun i i0 i1 => by
    have he := hp.all i i0 (by omega)
    unfold Prob.each at he
    omega)
  have := hp.m2
  unfold npcs; omega
theorem npcs_less {p : Prob} {i : Int} (i0 : 0 ≤ i) (i1 : i < p.m) : npcs (p.less1 i) = npcs p - 1 := by
  have h := sumTo_upd p.D (y := p.D i - 1) i0 (n := p.m.toNat) (by omega)
  show sumTo (upd p.D i (p.D i - 1)) p.m.toNat = sumTo p.D p.m.toNat - 1
  rw [h]; omega
theorem BFit.less {p : Prob} {n i : Int} {bs : Int → Int → Int} (h : BFit p n bs) : BFit (p.less1 i) n bs := h
theorem BFit.zero {p : Prob} (hp : p.Ok) (n : Int) : BFit p n (fun _ _ => 0) := fun k k0 k1 => ⟨fun j j0 j1 => ⟨Int.le_refl _, by show (0 : Int) ≤ 2000; omega⟩, by
  have e : Used p (fun _ => 0) p.m.toNat = 0 := by
    unfold Used
    rw [sumTo_congr (g := fun _ => 0) fun i i0 i1 => by simp]
    exact sumTo_zero _
  have := hp.s1; have := hp.k1
  dsimp only
  rw [e]; omega⟩
end Go.Proofs.Gw
namespace Go.Proofs.YtkichmnjjblodaaGreat
open Go Go.RowKit Go.Proofs.Gw
theorem cl_55 : calledT Tryz.prog 55 = true := by kernel_rfl
theorem cl_59 : calledT Tryz.prog 59 = true := by kernel_rfl
theorem c_pieces36 {vL vD : Value} {p : Prob} (w0 : World) (h : PAt w0 vL vD p) (hp : p.Ok) :
    Calls Tryz.prog 55 [.agg #[vL, vD, .int .i64 p.stock, .int .i64 p.kerf]].toArray w0 fun e w => ∃ v, e = .returned v ∧ v = .int .i64 (npcs p) ∧ Sat w0 w [] := by
  have hm := h.L.slh.n0; have hm1 := h.L.slh.n1; have hd := h.D.slh.n0; have hd1 := h.D.slh.n1; have hs := h.is; have hk := h.ik
  have hpm := hp.m1; have hpm2 := hp.m2; have hpd := hp.d; have hs1 := hp.s1; have hs2 := hp.s2; have hk1 := hp.k1; have hk2 := hp.k2
  refine zenG Tryz.func55 Tryz.ntmps55 fun w hS => ?_
  refine zsr ?_
  refine zla (xbx (cs := [_, _, _, _]) hS) ?_; rintro _ w ⟨g1, rfl, hS⟩
  replace hS := hS.n1
  refine zlv xas ?_
  refine zlz ?_
  refine zlv xas ?_
  refine zlt <| zsq <| zsr ?_
  refine zlv xas ?_
  refine zlt <| zbk <| zlp (fun mm M w => ∃ (s : Int) (i : Int), mm = ((p.m - i).toNat) ∧ (0 ≤ i) ∧ (i ≤ p.m) ∧ (s = sumTo p.D i.toNat) ∧ (0 ≤ s ∧ s ≤ 1000 * i) ∧ M = [(1, .pointer (some ⟨g1, 0, none⟩)), (2, .int .i64 0), (3, .int .i64 s), (4, .int .i64 i)] ∧ Sat w0 w [.blk g1 [vL, vD, .int .i64 p.stock, .int .i64 p.kerf]]) ⟨0, 0, rfl, (by omega), (by omega), ?_, (by omega), rfl, hS⟩ ?_
  ·
   rfl
  clear hS w
  rintro mm M w ⟨s, i, rfl, h0, h1, hs9, hsb, rfl, hS⟩
  refine zsq <| zsr ?_
  refine zlv xmv ?_
  refine zlv (xfb 1 fd_24_1) ?_
  refine zlv (xlb 0 pl_22 hS) ?_
  refine zlv (xln sl_22 h.D.slh) ?_
  refine zlv xlss ?_
  refine zlt ?_
  refine zcif ?_ ?_ <;> intro hc
  ·
   refine zsk <| ztn <| zsq <| zbk <| zrg ?_
   refine zlv xmv ?_
   refine zlv (xfb 1 fd_24_1) ?_
   refine zlv (xlb 0 pl_22 hS) ?_
   refine zlv xmv ?_
   refine zlv (xix (kk := i) sl_22 h.D.slh) ?_
   refine zlv (xlr (u := .int .i64 (p.D i)) pl_3 (h.D.below hS.below)) ?_
   have hbv := h.iD i
   have hei := hp.all i h0 (by omega); unfold Prob.each at hei
   refine zlv (xadd (r := s + p.D i)) ?_
   refine zlv xas ?_
   refine zln <| zbn <| ztn <| zrg ?_
   refine zlv xmv ?_
   refine zlv (xadd (r := i + 1)) ?_
   refine zlv xas ?_
   refine zln <| zlq ⟨s + p.D i, i + 1, rfl, (by omega), (by omega), ?_, (by omega), rfl, hS⟩
   ·
    rw [sumTo_next _ h0, ← hs9]
  refine zxt <| ztx <| ztx <| zbh <| ztn <| zsr ?_
  refine zs2 ?_
  refine zlt <| zrt <| zf1 ⟨_, rfl, ?_⟩
  obtain rfl : i = p.m := by omega
  exact ⟨congrArg (Value.int .i64) hs9, hS.nl⟩
theorem c_small36 {vL vD : Value} {p : Prob} (w0 : World) (h : PAt w0 vL vD p) (hp : p.Ok) :
    Calls Tryz.prog 29 [.agg #[vL, vD, .int .i64 p.stock, .int .i64 p.kerf]].toArray w0 fun e w => ∃ v, e = .returned v ∧ v = B (npcs p ≤ 6 ∧ p.m ≤ 4) ∧ Sat w0 w [] := by
  have hm := h.L.slh.n0; have hm1 := h.L.slh.n1; have hd := h.D.slh.n0; have hd1 := h.D.slh.n1; have hs := h.is; have hk := h.ik
  have hpm := hp.m1; have hpm2 := hp.m2; have hpd := hp.d; have hs1 := hp.s1; have hs2 := hp.s2; have hk1 := hp.k1; have hk2 := hp.k2
  refine zenG Tryz.func29 Tryz.ntmps29 fun w hS => ?_
  refine zsr ?_
  refine zla (xbx (cs := [_, _, _, _]) hS) ?_; rintro _ w ⟨g1, rfl, hS⟩
  replace hS := hS.n1
  refine zlv xas ?_
  refine zlz ?_
  refine zlv (xls 0 st_24 hS) ?_
  refine zlc (xc0 cl_55) (c_pieces36 (p := p) w (h.below hS.below) hp) ?_; rintro _ w ⟨rfl, hS'⟩
  replace hS := hS.cmp hS'; clear hS'
  refine zs2 ?_
  refine zlb 6 ?_ ?_ <;> intro hc
  ·
   refine zlv (xfb 0 fd_24_0) ?_
   refine zlv (xlb 0 pl_22 hS) ?_
   refine zlv (xln sl_22 h.L.slh) ?_
   refine zs3 ?_
   refine zlt <| zrt <| zf1 ⟨_, rfl, ?_⟩
   exact ⟨B_congr (by omega), hS.nl⟩
  iterate 4 refine zlo ?_
  refine zs2 ?_
  refine zlt <| zrt <| zf1 ⟨_, rfl, ?_⟩
  exact ⟨false_B (by omega), hS.nl⟩
theorem less_i64 {f : Int → Int} {i : Int} (hf : ∀ k, -9223372036854775808 ≤ f k ∧ f k ≤ 9223372036854775807) (h1 : 1 ≤ f i) : ∀ k, -9223372036854775808 ≤ Go.Proofs.Gw.upd f i (f i - 1) k ∧ Go.Proofs.Gw.upd f i (f i - 1) k ≤ 9223372036854775807 := fun k => by
  have g1 := hf k; have g2 := hf i
  unfold Go.Proofs.Gw.upd; split <;> omega
theorem mat_put {w : World} {vM x v : Value} {n k : Int} {mv : Int → Value} {ml : Int → Int} {bs : Int → Int → Int} {g : Int → Int} (h : MAt w vM n mv ml bs) (hx : Row w x 1 n (upd mv k v)) (hv : Row w v 1 (ml k) (ints g)) (hr : Go.Proofs.Gw.Roomy v) : MAt w x n (upd mv k v) ml (upd bs k g) := by
  refine ⟨hx, fun i i0 i1 => ?_, fun i i0 i1 => ?_⟩
  · by_cases e : i = k
    · subst e; rw [gu_self, Go.Proofs.Gw.upd_self]; exact hv
    · rw [gu_ne e, Go.Proofs.Gw.upd_ne _ _ e]; exact h.p i i0 i1
  · by_cases e : i = k
    · subst e; rw [gu_self]; exact hr
    · rw [gu_ne e]; exact h.room i i0 i1
theorem c_met  (N : Nat) : ∀ {vL vD : Value} {p : Prob} {vM : Value} {n : Int} {mv : Int → Value} {ml : Int → Int} {bs : Int → Int → Int} (w0 : World) (h : PAt w0 vL vD p) (hp : p.Ok) (hM : MAt w0 vM n mv ml bs) (hml : ∀ k, 0 ≤ k → k < n → ml k = p.m) (hb : BFit p n bs) (hn5 : n ≤ 100000) (hN : (npcs p).toNat < N),
    Calls Tryz.prog 59 [.agg #[vL, vD, .int .i64 p.stock, .int .i64 p.kerf], vM].toArray w0 fun e w => ∃ v, e = .returned v ∧ v = B (Able p n bs) ∧ Sat w0 w [] := by
  induction N with
  | zero => intros; omega
  | succ N ih =>
    intro vL vD p vM n mv ml bs w0 h hp hM hml hb hn5 hN
    have hm := h.L.slh.n0; have hm1 := h.L.slh.n1; have hd := h.D.slh.n0; have hd1 := h.D.slh.n1; have hs := h.is; have hk := h.ik
    have hpm := hp.m1; have hpm2 := hp.m2; have hpd := hp.d; have hs1 := hp.s1; have hs2 := hp.s2; have hk1 := hp.k1; have hk2 := hp.k2
    have hn := hM.row.slh.n0; have hn1 := hM.row.slh.n1
    refine zenG Tryz.func59 Tryz.ntmps59 fun w hS => ?_
    refine zsr ?_
    refine zla (xbx (cs := [_, _, _, _]) hS) ?_; rintro _ w ⟨g1, rfl, hS⟩
    replace hS := hS.n1
    refine zlv xas ?_
    refine zlz ?_
    refine zlv xas ?_
    refine zlt <| zsq <| zbk <| zlp (fun mm M w => ∃ (i : Int), mm = ((p.d - i).toNat) ∧ (0 ≤ i) ∧ (i ≤ p.d) ∧ (∀ k, 0 ≤ k → k < i → p.D k = 0) ∧ M = [(1, vM), (2, .pointer (some ⟨g1, 0, none⟩)), (4, .bool false), (5, .int .i64 i)] ∧ Sat w0 w [.blk g1 [vL, vD, .int .i64 p.stock, .int .i64 p.kerf]]) ⟨0, rfl, (by omega), (by omega), ?_, rfl, hS⟩ ?_
    ·
     intro k h0 h1; omega
    clear hS w
    rintro mm M w ⟨i, rfl, h0, h1, hall, rfl, hS⟩
    refine zsq <| zsr ?_
    refine zlv xmv ?_
    refine zlv (xfb 1 fd_24_1) ?_
    refine zlv (xlb 0 pl_22 hS) ?_
    refine zlv (xln sl_22 h.D.slh) ?_
    refine zs2 ?_
    refine zlb 16 ?_ ?_ <;> intro hc
    ·
     refine zlv (xfb 1 fd_24_1) ?_
     refine zlv (xlb 0 pl_22 hS) ?_
     refine zlv xmv ?_
     refine zlv (xix (kk := i) sl_22 h.D.slh) ?_
     refine zlv (xlr (u := .int .i64 (p.D i)) pl_3 (h.D.below hS.below)) ?_
     have hbv := h.iD i
     refine zs2 ?_
     refine zlt ?_
     refine zcif ?_ ?_ <;> intro hc
     ·
      refine zsk <| ztn <| zbk <| zrg ?_
      refine zlv xmv ?_
      refine zlv (xadd (r := i + 1)) ?_
      refine zlv xas ?_
      refine zln <| zbn <| zlq ⟨i + 1, rfl, (by omega), (by omega), ?_, rfl, hS⟩
      ·
       intro k h0' h1'; rcases Int.lt_or_eq_of_le (show k ≤ i by omega) with hk | hk; exact hall k h0' hk; rw [hk]; omega
     refine zxt <| ztx <| ztx <| zbh <| ztn <| zsq <| zsr ?_
     refine zlv xmv ?_
     refine zlv (xfb 1 fd_24_1) ?_
     refine zlv (xlb 0 pl_22 hS) ?_
     refine zlv (xln sl_22 h.D.slh) ?_
     refine zlv (xkf xeql) ?_
     refine zlt <| zcf <| zsk <| ztn <| zsr ?_
     refine zlv (xls 0 st_24 hS) ?_
     have hei := hp.all i h0 (by omega); unfold Prob.each at hei
     refine zla (xal (cs := [_, _, _, _]) el_24 hS) ?_; rintro _ w ⟨g2, rfl, hS⟩
     replace hS := hS.n2
     refine zle (xsw 1 st_24 hS (hd := (ones_cons h.L.slh.one (ones_cons h.D.slh.one (ones_cons rfl (ones_cons rfl ones_nil)))))) ?_; clear hS; rintro w hS
     replace hS := hS.n2
     refine zlz ?_
     refine zla (xl0 (c := ints p.D) sl_22 hS) ?_; rintro v1 w ⟨hS, hv1⟩
     replace hS := hS.n3
     refine zlv (xfb 1 fd_24_1) ?_
     refine zlv (xlb 0 pl_22 hS) ?_
     refine zla (xap 2 (r := p.d) (f := ints p.D) sl_22 el_3 hS (h.D.below hS.below) (by exact cat_self _ _)) ?_; rintro v2 w ⟨hS, hv2⟩
     replace hS := hS.n3
     refine zlv (xfb 1 fd_24_1) ?_
     refine zle (xsb 1 pl_22 hS (hv := hv2.one)) ?_; clear hS; rintro w hS
     replace hS := hS.n3
     refine zlz ?_
     refine zlv (xfb 1 fd_24_1) ?_
     refine zlv (xlb 1 pl_22 hS) ?_
     refine zlv xmv ?_
     refine zlv (xix (kk := i) sl_22 hv2) ?_
     refine zlv (xlr (u := .int .i64 (p.D i)) pl_3 (hS.rowN 2 rfl)) ?_
     refine zlv (xsub (r := p.D i - 1)) ?_
     refine zlv (xix (kk := i) sl_22 hv2) ?_
     refine zle (xso 2 pl_3 hS (upd_ints _ _ _)) ?_; clear hS; rintro w hS
     replace hS := hS.n3
     refine zlt <| zsq <| zsr ?_
     refine zlv xas ?_
     refine zlt <| zbk <| zlp (fun mm M w => ∃ (z : Int), mm = ((n - z).toNat) ∧ (0 ≤ z) ∧ (z ≤ n) ∧ (∀ r, 0 ≤ r → r < z → ¬ ((∀ s, 0 ≤ s → s < r → ¬ SameB p.m (bs s) (bs r)) ∧ FitsP p p.m (upd (bs r) i (bs r i + 1)) ∧ Able (p.less1 i) n (put1 bs r i))) ∧ M = [(1, vM), (2, .pointer (some ⟨g1, 0, none⟩)), (5, .int .i64 i), (6, .pointer (some ⟨g2, 0, none⟩)), (7, .int .i64 z)] ∧ Sat w0 w [.blk g1 [vL, vD, .int .i64 p.stock, .int .i64 p.kerf], .blk g2 [vL, v2, .int .i64 p.stock, .int .i64 p.kerf], .own v2 1 3 p.d (ints (upd p.D i (p.D i - 1)))]) ⟨0, rfl, (by omega), (by omega), ?_, rfl, hS⟩ ?_
     ·
      intro r r0 r1; omega
     clear hS w
     rintro mm M w ⟨z, rfl, k0, k1, hno, rfl, hS⟩
     refine zsq <| zsr ?_
     refine zs2 ?_
     refine zlv (xln sl_83 hM.row.slh) ?_
     refine zlv xlss ?_
     refine zlt ?_
     refine zcif ?_ ?_ <;> intro hc
     ·
      refine zsk <| ztn <| zsq <| zbk <| zsr ?_
      refine zlv xas ?_
      refine zlas 8 (u := B (∀ s, 0 ≤ s → s < 0 → ¬ SameB p.m (bs s) (bs z))) (true_B (p := ∀ s, 0 ≤ s → s < 0 → ¬ SameB p.m (bs s) (bs z)) (fun s s0 s1 => by omega)) ?_
      refine zlt <| zsq <| zsr ?_
      refine zlv xas ?_
      refine zlt <| zbk <| zlp (fun mm M w => ∃ (q : Int), mm = ((z - q).toNat) ∧ (0 ≤ q) ∧ (q ≤ z) ∧ M = [(1, vM), (2, .pointer (some ⟨g1, 0, none⟩)), (5, .int .i64 i), (6, .pointer (some ⟨g2, 0, none⟩)), (7, .int .i64 z), (8, B (∀ s, 0 ≤ s → s < q → ¬ SameB p.m (bs s) (bs z))), (9, .int .i64 q)] ∧ Sat w0 w [.blk g1 [vL, vD, .int .i64 p.stock, .int .i64 p.kerf], .blk g2 [vL, v2, .int .i64 p.stock, .int .i64 p.kerf], .own v2 1 3 p.d (ints (upd p.D i (p.D i - 1)))]) ⟨0, rfl, (by omega), (by omega), rfl, hS⟩ ?_
      clear hS w
      rintro mm M w ⟨q, rfl, q0, q1, rfl, hS⟩
      refine zsq <| zsr ?_
      refine zs3 ?_
      refine zlt ?_
      refine zcif ?_ ?_ <;> intro hc
      ·
       refine zsk <| ztn <| zsq <| zbk ?_
       refine zdst [0, 1, 2] [0, 1, 2] 1000 mx_ hS ?_; clear hS; intro w hS
       refine zdv 0 (fun _ => xmv) ?_
       refine zdv 1 (fun _ => xmv) ?_
       refine zdb 56 ?_ ?_ <;> intro hc
       ·
        refine zdv 2 (fun _ => xmv) ?_
        refine zdv 3 (fun _ => xmv) ?_
        refine zdv 4 (fun _ => (xix (kk := q) sl_83 hM.row.slh)) ?_
        refine zdla 5 (fun w hS => (xlr (u := (mv q)) pl_22 (hM.row.below hS.below))) ?_
        refine zdv 6 (fun _ => xmv) ?_
        refine zdv 7 (fun _ => xmv) ?_
        refine zdv 8 (fun _ => (xix (kk := z) sl_83 hM.row.slh)) ?_
        refine zdla 9 (fun w hS => (xlr (u := (mv z)) pl_22 (hM.row.below hS.below))) ?_
        refine zdc 10 (xc0 cl_18) (c_same28 (n := (ml q)) (m := (ml z)) (f := (bs q)) (g := (bs z)) w ((hM.p q (by omega) (by omega)).below hS.below) ((hM.p z (by omega) (by omega)).below hS.below)) ?_; rintro _ w ⟨rfl, hS'⟩
        replace hS := hS.cmp hS'; clear hS'
        refine ⟨⟨fun _ => hS, hS⟩, ?_⟩
        refine zdv 11 (fun _ => xnot) ?_
        refine zdv 12 (fun _ => xpt) ?_
        refine zdv 13 (fun _ => xas) ?_
        refine zdas 8 (u := B (∀ s, 0 ≤ s → s < q + 1 → ¬ SameB p.m (bs s) (bs z))) (B_congr (p := ¬ ((ml q) = (ml z) ∧ ∀ k, 0 ≤ k → k < (ml q) → (bs q) k = (bs z) k)) (q := ∀ s, 0 ≤ s → s < q + 1 → ¬ SameB p.m (bs s) (bs z)) ⟨fun hh s s0 s1 => by by_cases e : s = q; (subst e; exact fun h9 => hh ⟨by have := hml s s0 (by omega); have := hml z k0 (by omega); omega, fun j j0 j1 => h9 j j0 (by have := hml s s0 (by omega); omega)⟩); exact (‹∀ s, 0 ≤ s → s < q → ¬ SameB p.m (bs s) (bs z)›) s s0 (by omega), fun hh h9 => hh q q0 (by omega) (fun j j0 j1 => h9.2 j j0 (by have := hml q q0 (by omega); omega))⟩) ?_
        refine zdd <| zbn <| ztn <| zrg ?_
        refine zlv xmv ?_
        refine zlv (xadd (r := q + 1)) ?_
        refine zlv xas ?_
        refine zln <| zlq ⟨q + 1, rfl, (by omega), (by omega), rfl, hS⟩
       refine zdof 2 ?_
       refine zdof 3 ?_
       refine zdof 4 ?_
       refine zdof 5 ?_
       refine zdof 6 ?_
       refine zdof 7 ?_
       refine zdof 8 ?_
       refine zdof 9 ?_
       refine zdof 10 ?_
       refine zdof 11 ?_
       refine zdv 12 (fun _ => xpf) ?_
       refine zdv 13 (fun _ => xas) ?_
       refine zdas 8 (u := B (∀ s, 0 ≤ s → s < q + 1 → ¬ SameB p.m (bs s) (bs z))) (false_B (p := ∀ s, 0 ≤ s → s < q + 1 → ¬ SameB p.m (bs s) (bs z)) (fun hh => ‹¬ (∀ s, 0 ≤ s → s < q → ¬ SameB p.m (bs s) (bs z))› (fun s s0 s1 => hh s s0 (by omega)))) ?_
       refine zdd <| zbn <| ztn <| zrg ?_
       refine zlv xmv ?_
       refine zlv (xadd (r := q + 1)) ?_
       refine zlv xas ?_
       refine zln <| zlq ⟨q + 1, rfl, (by omega), (by omega), rfl, hS⟩
      refine zxt <| ztx <| ztx <| zbh <| ztn <| zsq <| zsr ?_
      refine zs2 ?_
      refine zlt ?_
      refine zcif ?_ ?_ <;> intro hc
      ·
       refine zxt <| ztx <| zbh <| ztn <| zrg ?_
       refine zlv xmv ?_
       refine zlv (xadd (r := z + 1)) ?_
       refine zlv xas ?_
       refine zln <| zlq ⟨z + 1, rfl, (by omega), (by omega), ?_, rfl, hS⟩
       ·
        intro r r0 r1; rcases Int.lt_or_eq_of_le (show r ≤ z by omega) with hj | hj
        · exact hno r r0 hj
        · rw [hj]; rintro ⟨g1, g2, g3⟩
          first
          | exact absurd g3 ‹_›
          | exact absurd (show FitsP p (ml z) (upd (bs z) i (bs z i + 1)) by rw [hml z k0 (by omega)]; exact g2) ‹_›
          | exact absurd (show ∀ s, 0 ≤ s → s < q → ¬ SameB p.m (bs s) (bs z) from fun s s0 s1 => g1 s s0 (by omega)) ‹_›
      refine zsk <| ztn <| zsr ?_
      refine zla (xl0 (c := mv) sl_83 hS) ?_; rintro v3 w ⟨hS, hv3⟩
      replace hS := hS.n4
      refine zlv xmv ?_
      refine zla (xap 3 (r := n) (f := mv) sl_83 el_22 hS (hM.row.below hS.below) (by exact cat_self _ _) (h1 := (fun k k0 k1 => (hM.p k k0 (by omega)).slh.one))) ?_; rintro v4 w ⟨hS, hv4⟩
      replace hS := hS.n4
      refine zlv xas ?_
      refine zlz ?_
      refine zlv xmv ?_
      have hmk := hml z k0 (by omega)
      have hbk := (hb z k0 (by omega)).1 i h0 (by omega)
      have hft : FitsP p (ml z) (upd (bs z) i (bs z i + 1)) → FitsP p p.m (upd (bs z) i (bs z i + 1)) := fun hh => by rw [hml z k0 (by omega)] at hh; exact hh
      refine zlv xmv ?_
      refine zla (xl0 (c := ints (bs z)) sl_22 hS) ?_; rintro v5 w ⟨hS, hv5⟩
      replace hS := hS.n5
      refine zs2 ?_
      refine zlv (xix (kk := z) sl_83 hM.row.slh) ?_
      refine zlv (xlr (u := (mv z)) pl_22 (hM.row.below hS.below)) ?_
      refine zla (xap 4 (r := (ml z)) (f := ints (bs z)) sl_22 el_3 hS ((hM.p z (by omega) (by omega)).below hS.below) (by exact cat_self _ _)) ?_; rintro v6 w ⟨hS, hv6⟩
      replace hS := hS.n5
      refine zlv (xix (kk := z) sl_83 hv4) ?_
      refine zle (xso 3 pl_22 hS rfl (hv := hv6.one)) ?_; clear hS; rintro w hS
      replace hS := hS.n5
      refine zlz ?_
      refine zs2 ?_
      refine zlv (xix (kk := z) sl_83 hv4) ?_
      refine zlv (xlr (u := v6) pl_22 (hS.rowN 3 rfl) (e := (gu_self _ _ _))) ?_
      refine zlv xmv ?_
      refine zlv (xix (kk := i) sl_22 hv6) ?_
      refine zlv (xlr (u := .int .i64 ((bs z) i)) pl_3 (hS.rowN 4 rfl)) ?_
      refine zlv (xadd (r := (bs z) i + 1)) ?_
      refine zlv (xix (kk := i) sl_22 hv6) ?_
      refine zle (xso 4 pl_3 hS (upd_ints _ _ _)) ?_; clear hS; rintro w hS
      replace hS := hS.n5
      refine zlt <| zsq ?_
      refine zdst [0, 1, 2, 3, 4] [0, 1, 2, 3, 4] 1000 mx_ hS ?_; clear hS; intro w hS
      refine zdla 0 (fun w hS => (xls 0 st_24 hS)) ?_
      refine zdv 1 (fun _ => xmv) ?_
      refine zdv 2 (fun _ => xmv) ?_
      refine zdv 3 (fun _ => (xix (kk := z) sl_83 hv4)) ?_
      refine zdla 4 (fun w hS => (xlr (u := v6) pl_22 (hS.rowN 3 rfl) (e := (gu_self _ _ _)))) ?_
      refine zdc 5 (xc0 cl_90) (c_fits (p := p) w (h.below hS.below) (hS.rowN 4 rfl)) ?_; rintro _ w ⟨rfl, hS'⟩
      replace hS := hS.cmp hS'; clear hS'
      refine ⟨⟨fun _ => hS, hS⟩, ?_⟩
      refine zdv 6 (fun _ => xmv) ?_
      refine zdb 97 ?_ ?_ <;> intro hc
      ·
       refine zdla 7 (fun w hS => (xls 1 st_24 hS)) ?_
       refine zdv 8 (fun _ => xmv) ?_
       refine zdc 9 (xc0 cl_59) (ih (p := p.less1 i) (bs := put1 bs z i) (ml := ml) w (⟨(h.L.below hS.below), (hS.rowN 2 rfl), h.iL, (less_i64 h.iD (show 1 ≤ p.D i by omega)), (by (try dsimp only); omega), (by (try dsimp only); omega)⟩ : PAt _ _ _ (⟨p.m, p.L, p.d, (upd p.D i (p.D i - 1)), p.stock, p.kerf⟩ : Prob)) (less1_ok hp (by omega)) (mat_put (MAt.below hM hS.below) (hS.rowN 3 rfl) (hS.rowN 4 rfl) (Ent.holds.roomy (hS.holds _ (List.mem_of_getElem? (i := 4) rfl)))) hml (able_fits hp hb k0 (by omega) (hft ‹FitsP p (ml z) (upd (bs z) i (bs z i + 1))›)).less hn5 (by have := npcs_less (p := p) (i := i) h0 (by omega); have := npcs_rng (less1_ok hp (show 1 ≤ p.D i by omega)); omega)) ?_; rintro _ w ⟨rfl, hS'⟩
       replace hS := hS.cmp hS'; clear hS'
       refine ⟨⟨fun _ => hS, hS⟩, ?_⟩
       refine zdv 10 (fun _ => xpt) ?_
       refine zdd <| ztn ?_
       refine zcif ?_ ?_ <;> intro hc
       ·
        refine zsr ?_
        refine zlv xas ?_
        refine zlt <| zrt <| zbr <| ztr <| ztr <| zbr <| ztr <| zf1 ⟨_, rfl, ?_⟩
        exact ⟨true_B (able_back k0 (by omega) h0 ‹Able (p.less1 i) n (put1 bs z i)›), hS.nl⟩
       refine zsk <| zbn <| ztn <| zrg ?_
       refine zlv xmv ?_
       refine zlv (xadd (r := z + 1)) ?_
       refine zlv xas ?_
       refine zln <| zlq ⟨z + 1, rfl, (by omega), (by omega), ?_, rfl, hS.pk [0, 1, 2]⟩
       ·
        intro r r0 r1; rcases Int.lt_or_eq_of_le (show r ≤ z by omega) with hj | hj
        · exact hno r r0 hj
        · rw [hj]; rintro ⟨g1, g2, g3⟩
          first
          | exact absurd g3 ‹_›
          | exact absurd (show FitsP p (ml z) (upd (bs z) i (bs z i + 1)) by rw [hml z k0 (by omega)]; exact g2) ‹_›
          | exact absurd (show ∀ s, 0 ≤ s → s < q → ¬ SameB p.m (bs s) (bs z) from fun s s0 s1 => g1 s s0 (by omega)) ‹_›
      refine zdof 7 ?_
      refine zdof 8 ?_
      refine zdof 9 ?_
      refine zdv 10 (fun _ => xpf) ?_
      refine zdd <| ztn <| zcf <| zsk <| zbn <| ztn <| zrg ?_
      refine zlv xmv ?_
      refine zlv (xadd (r := z + 1)) ?_
      refine zlv xas ?_
      refine zln <| zlq ⟨z + 1, rfl, (by omega), (by omega), ?_, rfl, hS.pk [0, 1, 2]⟩
      ·
       intro r r0 r1; rcases Int.lt_or_eq_of_le (show r ≤ z by omega) with hj | hj
       · exact hno r r0 hj
       · rw [hj]; rintro ⟨g1, g2, g3⟩
         first
         | exact absurd g3 ‹_›
         | exact absurd (show FitsP p (ml z) (upd (bs z) i (bs z i + 1)) by rw [hml z k0 (by omega)]; exact g2) ‹_›
         | exact absurd (show ∀ s, 0 ≤ s → s < q → ¬ SameB p.m (bs s) (bs z) from fun s s0 s1 => g1 s s0 (by omega)) ‹_›
     refine zxt <| ztx <| ztx <| zbh <| ztn <| zsr ?_
     refine zlv xas ?_
     refine zlt <| zrt <| zf1 ⟨_, rfl, ?_⟩
     exact ⟨false_B (fun hh => by obtain ⟨r, r0, r1, r2, r3, r4⟩ := able_fwd hp hn hb h0 (by omega) (by omega) hh; exact hno r r0 (by omega) ⟨r2, r3, r4⟩), hS.nl⟩
    iterate 6 refine zlo ?_
    refine zlv xpf ?_
    refine zlt <| zcf <| zxt <| ztx <| ztx <| zbh <| ztn <| zsq <| zsr ?_
    refine zlv xmv ?_
    refine zlv (xfb 1 fd_24_1) ?_
    refine zlv (xlb 0 pl_22 hS) ?_
    refine zlv (xln sl_22 h.D.slh) ?_
    refine zlv xeql ?_
    refine zlt ?_
    refine zcif ?_ ?_ <;> intro hc
    ·
     refine zsr ?_
     refine zlv xas ?_
     refine zlt <| zrt <| ztr <| zf1 ⟨_, rfl, ?_⟩
     exact ⟨true_B (able_done hb fun j j0 j1 => hall j j0 (by omega)), hS.nl⟩
    refine zsk <| ztn <| zsr ?_
    refine zlv (xls 0 st_24 hS) ?_
    have hei := hp.all i h0 (by omega); unfold Prob.each at hei
    refine zla (xal (cs := [_, _, _, _]) el_24 hS) ?_; rintro _ w ⟨g2, rfl, hS⟩
    replace hS := hS.n2
    refine zle (xsw 1 st_24 hS (hd := (ones_cons h.L.slh.one (ones_cons h.D.slh.one (ones_cons rfl (ones_cons rfl ones_nil)))))) ?_; clear hS; rintro w hS
    replace hS := hS.n2
    refine zlz ?_
    refine zla (xl0 (c := ints p.D) sl_22 hS) ?_; rintro v1 w ⟨hS, hv1⟩
    replace hS := hS.n3
    refine zlv (xfb 1 fd_24_1) ?_
    refine zlv (xlb 0 pl_22 hS) ?_
    refine zla (xap 2 (r := p.d) (f := ints p.D) sl_22 el_3 hS (h.D.below hS.below) (by exact cat_self _ _)) ?_; rintro v2 w ⟨hS, hv2⟩
    replace hS := hS.n3
    refine zlv (xfb 1 fd_24_1) ?_
    refine zle (xsb 1 pl_22 hS (hv := hv2.one)) ?_; clear hS; rintro w hS
    replace hS := hS.n3
    refine zlz ?_
    refine zlv (xfb 1 fd_24_1) ?_
    refine zlv (xlb 1 pl_22 hS) ?_
    refine zlv xmv ?_
    refine zlv (xix (kk := i) sl_22 hv2) ?_
    refine zlv (xlr (u := .int .i64 (p.D i)) pl_3 (hS.rowN 2 rfl)) ?_
    refine zlv (xsub (r := p.D i - 1)) ?_
    refine zlv (xix (kk := i) sl_22 hv2) ?_
    refine zle (xso 2 pl_3 hS (upd_ints _ _ _)) ?_; clear hS; rintro w hS
    replace hS := hS.n3
    refine zlt <| zsq <| zsr ?_
    refine zlv xas ?_
    refine zlt <| zbk <| zlp (fun mm M w => ∃ (z : Int), mm = ((n - z).toNat) ∧ (0 ≤ z) ∧ (z ≤ n) ∧ (∀ r, 0 ≤ r → r < z → ¬ ((∀ s, 0 ≤ s → s < r → ¬ SameB p.m (bs s) (bs r)) ∧ FitsP p p.m (upd (bs r) i (bs r i + 1)) ∧ Able (p.less1 i) n (put1 bs r i))) ∧ M = [(1, vM), (2, .pointer (some ⟨g1, 0, none⟩)), (5, .int .i64 i), (6, .pointer (some ⟨g2, 0, none⟩)), (7, .int .i64 z)] ∧ Sat w0 w [.blk g1 [vL, vD, .int .i64 p.stock, .int .i64 p.kerf], .blk g2 [vL, v2, .int .i64 p.stock, .int .i64 p.kerf], .own v2 1 3 p.d (ints (upd p.D i (p.D i - 1)))]) ⟨0, rfl, (by omega), (by omega), ?_, rfl, hS⟩ ?_
    ·
     intro r r0 r1; omega
    clear hS w
    rintro mm M w ⟨z, rfl, k0, k1, hno, rfl, hS⟩
    refine zsq <| zsr ?_
    refine zs2 ?_
    refine zlv (xln sl_83 hM.row.slh) ?_
    refine zlv xlss ?_
    refine zlt ?_
    refine zcif ?_ ?_ <;> intro hc
    ·
     refine zsk <| ztn <| zsq <| zbk <| zsr ?_
     refine zlv xas ?_
     refine zlas 8 (u := B (∀ s, 0 ≤ s → s < 0 → ¬ SameB p.m (bs s) (bs z))) (true_B (p := ∀ s, 0 ≤ s → s < 0 → ¬ SameB p.m (bs s) (bs z)) (fun s s0 s1 => by omega)) ?_
     refine zlt <| zsq <| zsr ?_
     refine zlv xas ?_
     refine zlt <| zbk <| zlp (fun mm M w => ∃ (q : Int), mm = ((z - q).toNat) ∧ (0 ≤ q) ∧ (q ≤ z) ∧ M = [(1, vM), (2, .pointer (some ⟨g1, 0, none⟩)), (5, .int .i64 i), (6, .pointer (some ⟨g2, 0, none⟩)), (7, .int .i64 z), (8, B (∀ s, 0 ≤ s → s < q → ¬ SameB p.m (bs s) (bs z))), (9, .int .i64 q)] ∧ Sat w0 w [.blk g1 [vL, vD, .int .i64 p.stock, .int .i64 p.kerf], .blk g2 [vL, v2, .int .i64 p.stock, .int .i64 p.kerf], .own v2 1 3 p.d (ints (upd p.D i (p.D i - 1)))]) ⟨0, rfl, (by omega), (by omega), rfl, hS⟩ ?_
     clear hS w
     rintro mm M w ⟨q, rfl, q0, q1, rfl, hS⟩
     refine zsq <| zsr ?_
     refine zs3 ?_
     refine zlt ?_
     refine zcif ?_ ?_ <;> intro hc
     ·
      refine zsk <| ztn <| zsq <| zbk ?_
      refine zdst [0, 1, 2] [0, 1, 2] 1000 mx_ hS ?_; clear hS; intro w hS
      refine zdv 0 (fun _ => xmv) ?_
      refine zdv 1 (fun _ => xmv) ?_
      refine zdb 56 ?_ ?_ <;> intro hc
      ·
       refine zdv 2 (fun _ => xmv) ?_
       refine zdv 3 (fun _ => xmv) ?_
       refine zdv 4 (fun _ => (xix (kk := q) sl_83 hM.row.slh)) ?_
       refine zdla 5 (fun w hS => (xlr (u := (mv q)) pl_22 (hM.row.below hS.below))) ?_
       refine zdv 6 (fun _ => xmv) ?_
       refine zdv 7 (fun _ => xmv) ?_
       refine zdv 8 (fun _ => (xix (kk := z) sl_83 hM.row.slh)) ?_
       refine zdla 9 (fun w hS => (xlr (u := (mv z)) pl_22 (hM.row.below hS.below))) ?_
       refine zdc 10 (xc0 cl_18) (c_same28 (n := (ml q)) (m := (ml z)) (f := (bs q)) (g := (bs z)) w ((hM.p q (by omega) (by omega)).below hS.below) ((hM.p z (by omega) (by omega)).below hS.below)) ?_; rintro _ w ⟨rfl, hS'⟩
       replace hS := hS.cmp hS'; clear hS'
       refine ⟨⟨fun _ => hS, hS⟩, ?_⟩
       refine zdv 11 (fun _ => xnot) ?_
       refine zdv 12 (fun _ => xpt) ?_
       refine zdv 13 (fun _ => xas) ?_
       refine zdas 8 (u := B (∀ s, 0 ≤ s → s < q + 1 → ¬ SameB p.m (bs s) (bs z))) (B_congr (p := ¬ ((ml q) = (ml z) ∧ ∀ k, 0 ≤ k → k < (ml q) → (bs q) k = (bs z) k)) (q := ∀ s, 0 ≤ s → s < q + 1 → ¬ SameB p.m (bs s) (bs z)) ⟨fun hh s s0 s1 => by by_cases e : s = q; (subst e; exact fun h9 => hh ⟨by have := hml s s0 (by omega); have := hml z k0 (by omega); omega, fun j j0 j1 => h9 j j0 (by have := hml s s0 (by omega); omega)⟩); exact (‹∀ s, 0 ≤ s → s < q → ¬ SameB p.m (bs s) (bs z)›) s s0 (by omega), fun hh h9 => hh q q0 (by omega) (fun j j0 j1 => h9.2 j j0 (by have := hml q q0 (by omega); omega))⟩) ?_
       refine zdd <| zbn <| ztn <| zrg ?_
       refine zlv xmv ?_
       refine zlv (xadd (r := q + 1)) ?_
       refine zlv xas ?_
       refine zln <| zlq ⟨q + 1, rfl, (by omega), (by omega), rfl, hS⟩
      refine zdof 2 ?_
      refine zdof 3 ?_
      refine zdof 4 ?_
      refine zdof 5 ?_
      refine zdof 6 ?_
      refine zdof 7 ?_
      refine zdof 8 ?_
      refine zdof 9 ?_
      refine zdof 10 ?_
      refine zdof 11 ?_
      refine zdv 12 (fun _ => xpf) ?_
      refine zdv 13 (fun _ => xas) ?_
      refine zdas 8 (u := B (∀ s, 0 ≤ s → s < q + 1 → ¬ SameB p.m (bs s) (bs z))) (false_B (p := ∀ s, 0 ≤ s → s < q + 1 → ¬ SameB p.m (bs s) (bs z)) (fun hh => ‹¬ (∀ s, 0 ≤ s → s < q → ¬ SameB p.m (bs s) (bs z))› (fun s s0 s1 => hh s s0 (by omega)))) ?_
      refine zdd <| zbn <| ztn <| zrg ?_
      refine zlv xmv ?_
      refine zlv (xadd (r := q + 1)) ?_
      refine zlv xas ?_
      refine zln <| zlq ⟨q + 1, rfl, (by omega), (by omega), rfl, hS⟩
     refine zxt <| ztx <| ztx <| zbh <| ztn <| zsq <| zsr ?_
     refine zs2 ?_
     refine zlt ?_
     refine zcif ?_ ?_ <;> intro hc
     ·
      refine zxt <| ztx <| zbh <| ztn <| zrg ?_
      refine zlv xmv ?_
      refine zlv (xadd (r := z + 1)) ?_
      refine zlv xas ?_
      refine zln <| zlq ⟨z + 1, rfl, (by omega), (by omega), ?_, rfl, hS⟩
      ·
       intro r r0 r1; rcases Int.lt_or_eq_of_le (show r ≤ z by omega) with hj | hj
       · exact hno r r0 hj
       · rw [hj]; rintro ⟨g1, g2, g3⟩
         first
         | exact absurd g3 ‹_›
         | exact absurd (show FitsP p (ml z) (upd (bs z) i (bs z i + 1)) by rw [hml z k0 (by omega)]; exact g2) ‹_›
         | exact absurd (show ∀ s, 0 ≤ s → s < q → ¬ SameB p.m (bs s) (bs z) from fun s s0 s1 => g1 s s0 (by omega)) ‹_›
     refine zsk <| ztn <| zsr ?_
     refine zla (xl0 (c := mv) sl_83 hS) ?_; rintro v3 w ⟨hS, hv3⟩
     replace hS := hS.n4
     refine zlv xmv ?_
     refine zla (xap 3 (r := n) (f := mv) sl_83 el_22 hS (hM.row.below hS.below) (by exact cat_self _ _) (h1 := (fun k k0 k1 => (hM.p k k0 (by omega)).slh.one))) ?_; rintro v4 w ⟨hS, hv4⟩
     replace hS := hS.n4
     refine zlv xas ?_
     refine zlz ?_
     refine zlv xmv ?_
     have hmk := hml z k0 (by omega)
     have hbk := (hb z k0 (by omega)).1 i h0 (by omega)
     have hft : FitsP p (ml z) (upd (bs z) i (bs z i + 1)) → FitsP p p.m (upd (bs z) i (bs z i + 1)) := fun hh => by rw [hml z k0 (by omega)] at hh; exact hh
     refine zlv xmv ?_
     refine zla (xl0 (c := ints (bs z)) sl_22 hS) ?_; rintro v5 w ⟨hS, hv5⟩
     replace hS := hS.n5
     refine zs2 ?_
     refine zlv (xix (kk := z) sl_83 hM.row.slh) ?_
     refine zlv (xlr (u := (mv z)) pl_22 (hM.row.below hS.below)) ?_
     refine zla (xap 4 (r := (ml z)) (f := ints (bs z)) sl_22 el_3 hS ((hM.p z (by omega) (by omega)).below hS.below) (by exact cat_self _ _)) ?_; rintro v6 w ⟨hS, hv6⟩
     replace hS := hS.n5
     refine zlv (xix (kk := z) sl_83 hv4) ?_
     refine zle (xso 3 pl_22 hS rfl (hv := hv6.one)) ?_; clear hS; rintro w hS
     replace hS := hS.n5
     refine zlz ?_
     refine zs2 ?_
     refine zlv (xix (kk := z) sl_83 hv4) ?_
     refine zlv (xlr (u := v6) pl_22 (hS.rowN 3 rfl) (e := (gu_self _ _ _))) ?_
     refine zlv xmv ?_
     refine zlv (xix (kk := i) sl_22 hv6) ?_
     refine zlv (xlr (u := .int .i64 ((bs z) i)) pl_3 (hS.rowN 4 rfl)) ?_
     refine zlv (xadd (r := (bs z) i + 1)) ?_
     refine zlv (xix (kk := i) sl_22 hv6) ?_
     refine zle (xso 4 pl_3 hS (upd_ints _ _ _)) ?_; clear hS; rintro w hS
     replace hS := hS.n5
     refine zlt <| zsq ?_
     refine zdst [0, 1, 2, 3, 4] [0, 1, 2, 3, 4] 1000 mx_ hS ?_; clear hS; intro w hS
     refine zdla 0 (fun w hS => (xls 0 st_24 hS)) ?_
     refine zdv 1 (fun _ => xmv) ?_
     refine zdv 2 (fun _ => xmv) ?_
     refine zdv 3 (fun _ => (xix (kk := z) sl_83 hv4)) ?_
     refine zdla 4 (fun w hS => (xlr (u := v6) pl_22 (hS.rowN 3 rfl) (e := (gu_self _ _ _)))) ?_
     refine zdc 5 (xc0 cl_90) (c_fits (p := p) w (h.below hS.below) (hS.rowN 4 rfl)) ?_; rintro _ w ⟨rfl, hS'⟩
     replace hS := hS.cmp hS'; clear hS'
     refine ⟨⟨fun _ => hS, hS⟩, ?_⟩
     refine zdv 6 (fun _ => xmv) ?_
     refine zdb 97 ?_ ?_ <;> intro hc
     ·
      refine zdla 7 (fun w hS => (xls 1 st_24 hS)) ?_
      refine zdv 8 (fun _ => xmv) ?_
      refine zdc 9 (xc0 cl_59) (ih (p := p.less1 i) (bs := put1 bs z i) (ml := ml) w (⟨(h.L.below hS.below), (hS.rowN 2 rfl), h.iL, (less_i64 h.iD (show 1 ≤ p.D i by omega)), (by (try dsimp only); omega), (by (try dsimp only); omega)⟩ : PAt _ _ _ (⟨p.m, p.L, p.d, (upd p.D i (p.D i - 1)), p.stock, p.kerf⟩ : Prob)) (less1_ok hp (by omega)) (mat_put (MAt.below hM hS.below) (hS.rowN 3 rfl) (hS.rowN 4 rfl) (Ent.holds.roomy (hS.holds _ (List.mem_of_getElem? (i := 4) rfl)))) hml (able_fits hp hb k0 (by omega) (hft ‹FitsP p (ml z) (upd (bs z) i (bs z i + 1))›)).less hn5 (by have := npcs_less (p := p) (i := i) h0 (by omega); have := npcs_rng (less1_ok hp (show 1 ≤ p.D i by omega)); omega)) ?_; rintro _ w ⟨rfl, hS'⟩
      replace hS := hS.cmp hS'; clear hS'
      refine ⟨⟨fun _ => hS, hS⟩, ?_⟩
      refine zdv 10 (fun _ => xpt) ?_
      refine zdd <| ztn ?_
      refine zcif ?_ ?_ <;> intro hc
      ·
       refine zsr ?_
       refine zlv xas ?_
       refine zlt <| zrt <| zbr <| ztr <| ztr <| zbr <| ztr <| zf1 ⟨_, rfl, ?_⟩
       exact ⟨true_B (able_back k0 (by omega) h0 ‹Able (p.less1 i) n (put1 bs z i)›), hS.nl⟩
      refine zsk <| zbn <| ztn <| zrg ?_
      refine zlv xmv ?_
      refine zlv (xadd (r := z + 1)) ?_
      refine zlv xas ?_
      refine zln <| zlq ⟨z + 1, rfl, (by omega), (by omega), ?_, rfl, hS.pk [0, 1, 2]⟩
      ·
       intro r r0 r1; rcases Int.lt_or_eq_of_le (show r ≤ z by omega) with hj | hj
       · exact hno r r0 hj
       · rw [hj]; rintro ⟨g1, g2, g3⟩
         first
         | exact absurd g3 ‹_›
         | exact absurd (show FitsP p (ml z) (upd (bs z) i (bs z i + 1)) by rw [hml z k0 (by omega)]; exact g2) ‹_›
         | exact absurd (show ∀ s, 0 ≤ s → s < q → ¬ SameB p.m (bs s) (bs z) from fun s s0 s1 => g1 s s0 (by omega)) ‹_›
     refine zdof 7 ?_
     refine zdof 8 ?_
     refine zdof 9 ?_
     refine zdv 10 (fun _ => xpf) ?_
     refine zdd <| ztn <| zcf <| zsk <| zbn <| ztn <| zrg ?_
     refine zlv xmv ?_
     refine zlv (xadd (r := z + 1)) ?_
     refine zlv xas ?_
     refine zln <| zlq ⟨z + 1, rfl, (by omega), (by omega), ?_, rfl, hS.pk [0, 1, 2]⟩
     ·
      intro r r0 r1; rcases Int.lt_or_eq_of_le (show r ≤ z by omega) with hj | hj
      · exact hno r r0 hj
      · rw [hj]; rintro ⟨g1, g2, g3⟩
        first
        | exact absurd g3 ‹_›
        | exact absurd (show FitsP p (ml z) (upd (bs z) i (bs z i + 1)) by rw [hml z k0 (by omega)]; exact g2) ‹_›
        | exact absurd (show ∀ s, 0 ≤ s → s < q → ¬ SameB p.m (bs s) (bs z) from fun s s0 s1 => g1 s s0 (by omega)) ‹_›
    refine zxt <| ztx <| ztx <| zbh <| ztn <| zsr ?_
    refine zlv xas ?_
    refine zlt <| zrt <| zf1 ⟨_, rfl, ?_⟩
    exact ⟨false_B (fun hh => by obtain ⟨r, r0, r1, r2, r3, r4⟩ := able_fwd hp hn hb h0 (by omega) (by omega) hh; exact hno r r0 (by omega) ⟨r2, r3, r4⟩), hS.nl⟩
end Go.Proofs.YtkichmnjjblodaaGreat
namespace Go.Proofs.YtkichmnjjblodaaGreat
open Go Go.RowKit Go.Proofs.Gw
theorem cl_29 : calledT Tryz.prog 29 = true := by kernel_rfl
theorem cl_35 : calledT Tryz.prog 35 = true := by kernel_rfl
theorem c_met36 {vL vD : Value} {p : Prob} {b : Int} (w0 : World) (h : PAt w0 vL vD p) (hp : p.Ok) (hb0 : 0 ≤ b) :
    Calls Tryz.prog 35 [.agg #[vL, vD, .int .i64 p.stock, .int .i64 p.kerf], .int .i64 b].toArray w0 fun e w => ∃ v, e = .returned v ∧ v = B (Able p (min b (npcs p)) (fun _ _ => 0)) ∧ Sat w0 w [] := by
  have hm := h.L.slh.n0; have hm1 := h.L.slh.n1; have hd := h.D.slh.n0; have hd1 := h.D.slh.n1; have hs := h.is; have hk := h.ik
  have hpm := hp.m1; have hpm2 := hp.m2; have hpd := hp.d; have hs1 := hp.s1; have hs2 := hp.s2; have hk1 := hp.k1; have hk2 := hp.k2
  have hpc := npcs_rng hp
  refine zenG Tryz.func35 Tryz.ntmps35 fun w hS => ?_
  refine zsr ?_
  refine zla (xbx (cs := [_, _, _, _]) hS) ?_; rintro _ w ⟨g1, rfl, hS⟩
  replace hS := hS.n1
  refine zlv xas ?_
  refine zlz ?_
  refine zlv xmv ?_
  refine zlv (xls 0 st_24 hS) ?_
  refine zlc (xc0 cl_55) (c_pieces36 (p := p) w (h.below hS.below) hp) ?_; rintro _ w ⟨rfl, hS'⟩
  replace hS := hS.cmp hS'; clear hS'
  refine zlv (xmin (r := (min b (npcs p)))) ?_
  refine zla (xmk sl_83 el_22 hS) ?_; rintro v1 w ⟨hS, hv1⟩
  replace hS := hS.n2
  refine zlv xas ?_
  refine zlt <| zsq <| zsr ?_
  refine zlv xas ?_
  refine zlt <| zbk ?_
  replace hS := hS.addrows 3 (fun _ => Value.slice none 0 0) (fun _ => p.m) (fun _ _ => 0)
  replace hS := hS.n3
  refine zlp (fun mm M w => ∃ (c : Int → Value) (i : Int), mm = ((min b (npcs p) - i).toNat) ∧ (0 ≤ i) ∧ (i ≤ min b (npcs p)) ∧ M = [(2, .pointer (some ⟨g1, 0, none⟩)), (4, .bool false), (5, v1), (6, .int .i64 i)] ∧ Sat w0 w [.blk g1 [vL, vD, .int .i64 p.stock, .int .i64 p.kerf], .own v1 1 22 (min b (npcs p)) c, .sem (Frame.rows 3 i c (fun _ => p.m) (fun _ _ => 0))]) ⟨(fun _ => Value.slice none 0 0), 0, rfl, (by omega), (by omega), rfl, hS⟩ ?_
  clear hS w
  rintro mm M w ⟨c, i, rfl, h0, h1, rfl, hS⟩
  have hrs1 := fun k (k0 : 0 ≤ k) (k1 : k < i) => hS.slhIn 2 rfl k0 k1
  refine zsq <| zsr ?_
  refine zs2 ?_
  refine zlv (xln sl_83 hv1) ?_
  refine zlv xlss ?_
  refine zlt ?_
  refine zcif ?_ ?_ <;> intro hc
  ·
   refine zsk <| ztn <| zsq <| zbk <| zrg ?_
   refine zs2 ?_
   refine zlv (xfb 0 fd_24_0) ?_
   refine zlv (xlb 0 pl_22 hS) ?_
   refine zlv (xln sl_22 h.L.slh) ?_
   refine zla (xmk sl_22 el_3 hS) ?_; rintro v2 w ⟨hS, hv2⟩
   replace hS := hS.n4
   refine zlv (xix (kk := i) sl_83 hv1) ?_
   refine zle (xso 1 pl_22 hS rfl (hv := hv2.one)) ?_; clear hS; rintro w hS
   replace hS := hS.n4
   refine zln <| zbn <| ztn <| zrg ?_
   refine zlv xmv ?_
   replace hS := Sat.merge (l1 := [.blk g1 [vL, vD, .int .i64 p.stock, .int .i64 p.kerf], .own v1 1 22 (min b (npcs p)) (upd c i (v2))]) (l2 := []) (l3 := []) hS (by omega)
   replace hS := hS.rerows (vv' := upd c i (v2)) (ln' := fun _ => p.m) (f' := fun _ _ => 0) 2 rfl (fun k k0 k1 => by
     by_cases e : k < i
     · rw [gsn_lt e, gsn_lt e, gsn_lt e]; exact ⟨(gu_ne (by omega)).symm, rfl, fun _ _ _ => rfl⟩
     · obtain rfl : i = k := (by omega); rw [gsn_self, gsn_self, gsn_self]; exact ⟨(gu_self _ _ _).symm, rfl, fun _ _ _ => rfl⟩)
   replace hS := hS.n3
   refine zlv (xadd (r := i + 1)) ?_
   refine zlv xas ?_
   refine zln <| zlq ⟨upd c i (v2), i + 1, rfl, (by omega), (by omega), rfl, hS⟩
  refine zxt <| ztx <| ztx <| zbh <| ztn <| zsr ?_
  refine zlv (xls 0 st_24 hS) ?_
  obtain rfl : i = min b (npcs p) := by omega
  refine zlv xmv ?_
  refine zlc (xc0 cl_59) (c_met _ (p := p) (n := (min b (npcs p))) (mv := c) (ml := (fun _ => p.m)) (bs := fun _ _ => 0) w (h.below hS.below) hp (⟨(hS.rowN 1 rfl), fun k k0 k1 => hS.rowIn 2 rfl k0 k1, fun k k0 k1 => hS.roomIn 2 rfl k0 k1⟩ : MAt _ v1 (min b (npcs p)) c (fun _ => p.m) (fun _ _ => 0)) (fun k _ _ => rfl) (BFit.zero hp _) (by omega) (Nat.lt_succ_self _)) ?_; rintro _ w ⟨rfl, hS'⟩
  replace hS := hS.cmp hS'; clear hS'
  refine zlv xas ?_
  refine zlt <| zrt <| zf1 ⟨_, rfl, ?_⟩
  exact ⟨rfl, hS.nl⟩
theorem partP_ok {p : Prob} {b wi i : Int} (hs : SplOk p b wi) (i0 : 0 ≤ i) (i1 : i < partsN p b wi) : (partP p wi i).Ok := by
  obtain ⟨h1, _⟩ := part_ok hs i0 i1
  refine less_ok hs.1.1 fun k k0 k1 => ?_
  have h2 := h1.rng k k0 (by rw [← hs.1.1.d]; exact k1)
  omega
theorem tree_sound : ∀ (t : Tr) {p : Prob} {b : Int}, wrT t p b = none → ∀ {L : List (Int → Int)}, LFit p L → (∀ j, 0 ≤ j → j < p.m → p.D j ≤ lsum L j) → b < L.length := Tr.ind fun t ih p b h L hL hc => by
  by_cases h0 : t.n = 0
  · by_cases hl : LeafP p b t.nl t.l
    · obtain ⟨h1, h2, h3, h4⟩ := hl
      exact bars_bnd h3 h1.2.2 h4 hL hc
    · rw [wr_leaf_no h0 hl] at h; cases h
  · by_cases hs : SplOk p b t.s ∧ partsN p b t.s = t.n
    · rw [wr_kids h0 hs.1 hs.2] at h
      have hn : partsN p b t.s = (MX p t.s).length := partsN_yes hs.1
      obtain ⟨hpo, hb1, ⟨s0, s1⟩, hd, _⟩ := hs.1
      have hp := hpo.1
      have he := hp.all t.s s0 s1
      unfold Prob.each at he
      obtain ⟨L1, a, L2, rfl, ha⟩ := lsum_pos (j := t.s) (Int.le_trans (by omega) (hc t.s s0 s1))
      obtain ⟨i, i0, i1, hi⟩ := bar_below (hL a (by simp)) s0 s1 ha (by omega)
      have hk : kidW t p b i = none := fw_none h i i0 (by omega)
      have hok := partP_ok hs.1 i0 (by omega)
      have hL2 : LFit p (L1 ++ L2) := fun x hx => hL x (by rcases List.mem_append.1 hx with hx | hx <;> simp [hx])
      have h5 := ih i i0 (by omega) hk (L := L1 ++ L2) (fun x hx => by
          obtain ⟨_, g2, g3, g4⟩ := hL2 x hx
          exact ⟨hok, rfl, g3, g4⟩) (fun j j0 j1 => by
          have g1 := hc j j0 j1
          have g2 := hi j j0 j1
          have g3 := hL2.nn j0 j1
          rw [lsum_app, lsum] at g1
          rw [lsum_app] at g3 ⊢
          show p.D j - pat0 (MX p t.s) i j ≤ _
          omega)
      rw [List.length_append] at h5 ⊢
      rw [List.length_cons]
      omega
    · rw [wr_bad h0 hs] at h; cases h
theorem psum_sumTo (f d : Int → Int) : ∀ n : Nat, psum f d n = sumTo (fun k => f k * d k) n
  | 0 => rfl
  | n + 1 => by
    have := psum_sumTo f d n
    simp only [psum, sumTo, this]
theorem plan_bars {p : Prob} {u : Int} {ln cnt : Int → Int} {pt : Int → Int → Int} (h : PlanOk p u ln pt cnt ∧ ∀ j, 0 ≤ j → j < p.m → p.D j ≤ madeF u pt cnt j) : ∃ L, LFit p L ∧ (∀ j, 0 ≤ j → j < p.m → p.D j ≤ lsum L j) ∧ (L.length : Int) = psum (fun _ => 1) cnt u.toNat := by
  obtain ⟨⟨_, h1, h2⟩, h3⟩ := h
  obtain ⟨L, g1, g2, g3⟩ := plan_list (p := p) (len := ln) (pt := pt) (cnt := cnt) u.toNat fun i i0 i1 => by
    have := h2 i i0 (by omega)
    exact ⟨this.2.2, by omega⟩
  refine ⟨L, g1, fun j j0 j1 => ?_, ?_⟩
  · have := h3 j j0 j1
    unfold madeF at this
    rw [g2]; unfold MadeTo
    rw [psum_sumTo] at this; exact this
  · rw [g3, psum_sumTo]; exact sumTo_congr fun i _ _ => by rw [Int.one_mul]
theorem chk_zero {t : Tr} {p : Prob} {b : Int} (h : chkE t p b = 0) : PossP p b ∧ ValidT t ∧ wrT t p b = none := by
  by_cases h1 : PossP p b ∧ ValidT t
  · refine ⟨h1.1, h1.2, ?_⟩
    cases hw : wrT t p b with
    | none => rfl
    | some l => have := (chk_bad h1.1 h1.2 (by rw [hw]; exact Option.some_ne_none _)).1; omega
  · have := (chk_no h1).1; omega
theorem sound_plan {t : Tr} {p : Prob} {b u : Int} {ln cnt : Int → Int} {pt : Int → Int → Int} (h : wrT t p b = none) (hm : PlanOk p u ln pt cnt ∧ ∀ j, 0 ≤ j → j < p.m → p.D j ≤ madeF u pt cnt j) : b < psum (fun _ => 1) cnt u.toNat := by
  obtain ⟨L, h1, h2, h3⟩ := plan_bars hm
  rw [← h3]; exact tree_sound t h h1 h2
theorem not_able {t : Tr} {p : Prob} {b : Int} (h : wrT t p b = none) (hp : PossP p b) : ¬ Able p (min b (npcs p)) (fun _ _ => 0) := fun hh => by
  have h1 := npcs_rng hp.1
  have h2 := hp.2.1
  obtain ⟨L, g1, g2, g3⟩ := able_bars hp.1 (by omega) hh
  have := tree_sound t h g1 g2
  omega
theorem law_sound36 {vL vD : Value} {p : Prob} {b : Int} {t : Tr} {vV : Value} {u : Int} {pv : Int → Value} {ln : Int → Int} {pt : Int → Int → Int} {cnt : Int → Int} (w0 : World) (h : PAt w0 vL vD p) (hK : KAt w0 t) (hT : LvAt w0 t) (hV : VAt w0 vV u pv ln pt cnt) :
    Calls Tryz.prog 7 [.agg #[vL, vD, .int .i64 p.stock, .int .i64 p.kerf, .int .i64 b], .agg #[.int .i64 t.s, t.vK, t.vL], vV].toArray w0 fun e w => ∃ v, e = .returned v ∧ v = .bool true ∧ Sat w0 w [] := by
  have hm := h.L.slh.n0; have hm1 := h.L.slh.n1; have hd := h.D.slh.n0; have hd1 := h.D.slh.n1; have hs := h.is; have hk := h.ik
  have hn := hK.row.slh.n0; have hn1 := hK.row.slh.n1; have hln := hT.leaf.row.slh.n0; have hln1 := hT.leaf.row.slh.n1
  have hu := hV.row.slh.n0; have hu1 := hV.row.slh.n1
  refine zenG Tryz.func7 Tryz.ntmps7 fun w hS => ?_
  refine zsr ?_
  refine zla (xbx (cs := [_, _, _, _, _]) hS) ?_; rintro _ w ⟨g1, rfl, hS⟩
  replace hS := hS.n1
  refine zla (xbx (cs := [_, _, _]) hS) ?_; rintro _ w ⟨g2, rfl, hS⟩
  replace hS := hS.n2
  refine zlv xas ?_
  refine zlt <| zsq <| zsr ?_
  refine zlc (xc0 cl_11) (c_awk w) ?_; rintro _ w ⟨rfl, hS'⟩
  replace hS := hS.cmp hS'; clear hS'
  refine zs2 ?_
  refine zlv (xfb 0 fd_26_0) ?_
  refine zlv (xlp 0 (ds := [vL, vD, .int .i64 p.stock, .int .i64 p.kerf]) st_24 hS) ?_
  refine zlc (xc0 cl_12) (c_few28 (p := p) w (h.below hS.below)) ?_; rintro _ w ⟨rfl, hS'⟩
  replace hS := hS.cmp hS'; clear hS'
  refine zs3 ?_
  refine zlb 17 ?_ ?_ <;> intro hc
  ·
   iterate 3 refine zlo ?_
   refine zs2 ?_
   iterate 3 refine zlo ?_
   refine zlv xpt ?_
   refine zlt <| zct <| zsr ?_
   refine zlc (xc0 cl_11) (c_awk w) ?_; rintro _ w ⟨rfl, hS'⟩
   replace hS := hS.cmp hS'; clear hS'
   refine zlv xas ?_
   refine zlt <| zrt <| ztr <| zf1 ⟨_, rfl, ?_⟩
   exact ⟨rfl, hS.nl⟩
  refine zlv (xls 1 st_45 hS) ?_
  refine zlc (xc0 cl_19) (c_few35 (t := t) w (KAt.below hS.below (hK)) (LvAt.below hS.below (hT))) ?_; rintro _ w ⟨rfl, hS'⟩
  replace hS := hS.cmp hS'; clear hS'
  refine zs3 ?_
  refine zlb 22 ?_ ?_ <;> intro hc
  ·
   iterate 3 refine zlo ?_
   refine zlv xpt ?_
   refine zlt <| zct <| zsr ?_
   refine zlc (xc0 cl_11) (c_awk w) ?_; rintro _ w ⟨rfl, hS'⟩
   replace hS := hS.cmp hS'; clear hS'
   refine zlv xas ?_
   refine zlt <| zrt <| ztr <| zf1 ⟨_, rfl, ?_⟩
   exact ⟨rfl, hS.nl⟩
  refine zlv xmv ?_
  refine zlc (xc0 cl_20) (c_short28 (u := u) (pv := pv) (ln := ln) (pt := pt) (cnt := cnt) w (hV.below hS.below)) ?_; rintro _ w ⟨rfl, hS'⟩
  replace hS := hS.cmp hS'; clear hS'
  refine zs2 ?_
  refine zlt ?_
  refine zcif ?_ ?_ <;> intro hc
  ·
   refine zsr ?_
   refine zlc (xc0 cl_11) (c_awk w) ?_; rintro _ w ⟨rfl, hS'⟩
   replace hS := hS.cmp hS'; clear hS'
   refine zlv xas ?_
   refine zlt <| zrt <| ztr <| zf1 ⟨_, rfl, ?_⟩
   exact ⟨rfl, hS.nl⟩
  refine zsk <| ztn <| zsq <| zsq ?_
  refine zdst [0, 1] [0, 1] 1000 mx_ hS ?_; clear hS; intro w hS
  refine zdla 0 (fun w hS => (xls 0 st_26 hS)) ?_
  have hsf := (show ShortP u ln cnt by first | assumption | exact Classical.not_not.1 ‹_›).few
  refine zdla 2 (fun w hS => (xls 1 st_45 hS)) ?_
  refine zdc 1 (xc0 cl_14) (c_own36 (p := p) (b := b) w (h.below hS.below)) ?_; rintro _ w ⟨rfl, hS'⟩
  replace hS := hS.cmp hS'; clear hS'
  refine ⟨⟨fun _ => hS, hS⟩, ?_⟩
  refine zdc 3 (xc0 cl_22) (c_own35 t w (KAt.below hS.below (hK)) (LvAt.below hS.below (hT))) ?_; rintro _ w ⟨u1, rfl, hsimu1, hku1, hlu1, hS'⟩
  replace hS : Sat w0 w [.blk g1 [vL, vD, .int .i64 p.stock, .int .i64 p.kerf, .int .i64 b], .blk g2 [.int .i64 t.s, t.vK, t.vL], .sem (u1.frame 54)] := hS.comp hS'; clear hS'
  refine ⟨⟨fun _ => hS.pk [0, 1], hS.pk [0, 1]⟩, ?_⟩
  refine zdc 4 (xc0 cl_21) (c_chk (t := u1) (p := p) (b := b) w (h.below hS.below) (Tr.frame_kat (E := 54) _ hsimu1 (hK) (hS.holds (.sem (Tr.frame 54 u1)) (by repeat first | exact List.mem_cons_self .. | apply List.mem_cons_of_mem))) (Sim.vat _ hsimu1 (LvAt.below hS.below (hT)))) ?_; rintro _ w ⟨rk1, k1, fk1, rfl, hrk1, hik1, hS'⟩
  replace hS : Sat w0 w [.blk g1 [vL, vD, .int .i64 p.stock, .int .i64 p.kerf, .int .i64 b], .blk g2 [.int .i64 t.s, t.vK, t.vL], .sem (u1.frame 54), .sem (Frame.dq 3 rk1 k1 fk1)] := hS.comp hS'; clear hS'
  refine ⟨⟨fun _ => hS.pk [0, 1], hS.pk [0, 1]⟩, ?_⟩
  refine zdv 5 (fun _ => xmv) ?_
  refine zdv 6 (fun _ => xex) ?_
  refine zdv 7 (fun _ => xex) ?_
  rw [sim_chkL hsimu1] at hik1
  refine zdas 35 (u := .int .i64 (chkE t p b)) (congrArg (Value.int .i64) (sim_chkE hsimu1 p b)) ?_
  refine zdv 8 (fun _ => xas) ?_
  refine zdv 9 (fun _ => xas) ?_
  refine zdd <| ztn <| zsr ?_
  refine zs2 ?_
  refine zlt ?_
  refine zcif ?_ ?_ <;> intro hc
  ·
   refine zsr ?_
   refine zlv xas ?_
   refine zlt <| zrt <| ztr <| zf1 ⟨_, rfl, ?_⟩
   exact ⟨rfl, hS.nl⟩
  refine zsk <| ztn <| zsq ?_
  refine zdst [0, 1, 2, 3] [0, 1, 2, 3] 1000 mx_ hS ?_; clear hS; intro w hS
  refine zdv 0 (fun _ => (xfb 0 fd_26_0)) ?_
  obtain ⟨hpo, hvt, hwn⟩ := chk_zero (show chkE t p b = 0 by omega)
  have hpo1 := hpo.2.1
  refine zdla 1 (fun w hS => (xlp 0 (ds := [vL, vD, .int .i64 p.stock, .int .i64 p.kerf]) st_24 hS)) ?_
  refine zdv 2 (fun _ => xmv) ?_
  refine zdc 3 (xc0 cl_33) (c_vmeets (u := u) (pv := pv) (ln := ln) (pt := pt) (cnt := cnt) (p := p) w (hV.below hS.below) (h.below hS.below)) ?_; rintro _ w ⟨rfl, hS'⟩
  replace hS := hS.cmp hS'; clear hS'
  refine ⟨⟨fun _ => hS, hS⟩, ?_⟩
  refine zdv 4 (fun _ => xnot) ?_
  refine zdv 5 (fun _ => xmv) ?_
  refine zdb 43 ?_ ?_ <;> intro hc
  ·
   refine zdof 6 ?_
   refine zdof 8 ?_
   refine zdof 9 ?_
   refine zdof 7 ?_
   refine zdof 10 ?_
   refine zdv 11 (fun _ => xpt) ?_
   refine zdv 12 (fun _ => xmv) ?_
   refine zdv 13 (fun _ => (xfb 0 fd_26_0)) ?_
   refine zdla 14 (fun w hS => (xlp 0 (ds := [vL, vD, .int .i64 p.stock, .int .i64 p.kerf]) st_24 hS)) ?_
   refine zdc 15 (xc0 cl_29) (c_small36 (p := p) w (h.below hS.below) hpo.1) ?_; rintro _ w ⟨rfl, hS'⟩
   replace hS := hS.cmp hS'; clear hS'
   refine ⟨⟨fun _ => hS, hS⟩, ?_⟩
   refine zdv 16 (fun _ => xnot) ?_
   refine zdv 17 (fun _ => xmv) ?_
   refine zdb 55 ?_ ?_ <;> intro hc
   ·
    refine zdof 18 ?_
    refine zdof 19 ?_
    refine zdof 20 ?_
    refine zdof 21 ?_
    refine zdof 22 ?_
    refine zdof 23 ?_
    refine zdv 24 (fun _ => xpt) ?_
    refine zdv 25 (fun _ => xpt) ?_
    refine zdv 26 (fun _ => xas) ?_
    refine zdd <| ztn <| zrt <| zf1 ⟨_, rfl, ?_⟩
    exact ⟨rfl, hS.nl⟩
   refine zdv 18 (fun _ => (xfb 0 fd_26_0)) ?_
   refine zdla 19 (fun w hS => (xlp 0 (ds := [vL, vD, .int .i64 p.stock, .int .i64 p.kerf]) st_24 hS)) ?_
   refine zdv 20 (fun _ => (xfb 4 fd_26_1)) ?_
   refine zdla 21 (fun w hS => (xlb 0 pl_3 hS)) ?_
   refine zdc 22 (xc0 cl_35) (c_met36 (p := p) (b := b) w (h.below hS.below) hpo.1 (by omega)) ?_; rintro _ w ⟨rfl, hS'⟩
   replace hS := hS.cmp hS'; clear hS'
   refine ⟨⟨fun _ => hS, hS⟩, ?_⟩
   refine zdv 23 (fun _ => xnot) ?_
   refine zdas 61 (u := .bool true) (B_true (not_able hwn hpo)) ?_
   refine zdv 24 (fun _ => xpf) ?_
   refine zdv 25 (fun _ => xpt) ?_
   refine zdv 26 (fun _ => xas) ?_
   refine zdd <| ztn <| zrt <| zf1 ⟨_, rfl, ?_⟩
   exact ⟨rfl, hS.nl⟩
  refine zdv 6 (fun _ => xmv) ?_
  refine zdv 8 (fun _ => (xfb 4 fd_26_1)) ?_
  have hbb := sound_plan hwn (show PlanOk p u ln pt cnt ∧ ∀ j, 0 ≤ j → j < p.m → p.D j ≤ madeF u pt cnt j by first | assumption | exact Classical.not_not.1 ‹_›)
  refine zdla 9 (fun w hS => (xlb 0 pl_3 hS)) ?_
  refine zdc 7 (xc0 cl_34) (c_vbars (u := u) (pv := pv) (ln := ln) (pt := pt) (cnt := cnt) w (hV.below hS.below) (by omega) (fun k k0 k1 => by have h9 := (show PlanOk p u ln pt cnt ∧ ∀ j, 0 ≤ j → j < p.m → p.D j ≤ madeF u pt cnt j by first | assumption | exact Classical.not_not.1 ‹_›).1.2.2 k k0 k1; omega)) ?_; rintro _ w ⟨rfl, hS'⟩
  replace hS := hS.cmp hS'; clear hS'
  refine ⟨⟨fun _ => hS, hS⟩, ?_⟩
  refine zdv 10 (fun _ => (xkt xgtr)) ?_
  refine zdv 11 (fun _ => xpf) ?_
  refine zdv 12 (fun _ => xmv) ?_
  refine zdv 13 (fun _ => (xfb 0 fd_26_0)) ?_
  refine zdla 14 (fun w hS => (xlp 0 (ds := [vL, vD, .int .i64 p.stock, .int .i64 p.kerf]) st_24 hS)) ?_
  refine zdc 15 (xc0 cl_29) (c_small36 (p := p) w (h.below hS.below) hpo.1) ?_; rintro _ w ⟨rfl, hS'⟩
  replace hS := hS.cmp hS'; clear hS'
  refine ⟨⟨fun _ => hS, hS⟩, ?_⟩
  refine zdv 16 (fun _ => xnot) ?_
  refine zdv 17 (fun _ => xmv) ?_
  refine zdb 55 ?_ ?_ <;> intro hc
  ·
   refine zdof 18 ?_
   refine zdof 19 ?_
   refine zdof 20 ?_
   refine zdof 21 ?_
   refine zdof 22 ?_
   refine zdof 23 ?_
   refine zdv 24 (fun _ => xpt) ?_
   refine zdv 25 (fun _ => xpt) ?_
   refine zdv 26 (fun _ => xas) ?_
   refine zdd <| ztn <| zrt <| zf1 ⟨_, rfl, ?_⟩
   exact ⟨rfl, hS.nl⟩
  refine zdv 18 (fun _ => (xfb 0 fd_26_0)) ?_
  refine zdla 19 (fun w hS => (xlp 0 (ds := [vL, vD, .int .i64 p.stock, .int .i64 p.kerf]) st_24 hS)) ?_
  refine zdv 20 (fun _ => (xfb 4 fd_26_1)) ?_
  refine zdla 21 (fun w hS => (xlb 0 pl_3 hS)) ?_
  refine zdc 22 (xc0 cl_35) (c_met36 (p := p) (b := b) w (h.below hS.below) hpo.1 (by omega)) ?_; rintro _ w ⟨rfl, hS'⟩
  replace hS := hS.cmp hS'; clear hS'
  refine ⟨⟨fun _ => hS, hS⟩, ?_⟩
  refine zdv 23 (fun _ => xnot) ?_
  refine zdas 61 (u := .bool true) (B_true (not_able hwn hpo)) ?_
  refine zdv 24 (fun _ => xpf) ?_
  refine zdv 25 (fun _ => xpt) ?_
  refine zdv 26 (fun _ => xas) ?_
  refine zdd <| ztn <| zrt <| zf1 ⟨_, rfl, ?_⟩
  exact ⟨rfl, hS.nl⟩
end Go.Proofs.YtkichmnjjblodaaGreat
namespace Go.Proofs.Gw
open Go Go.RowKit Go.ChangeShapes Go.WideShapes Go.ChangeAt
section
variable {H : Type} {enc : TypeId × Value → H} {P : Program} {w : World} {held : Bool}
def Small {H : Type} (P : Program) (t : TypeId) (d : DataW H) : Prop := (d.weights P t).all (· ≤ reachBytes) = true
theorem small_each {ts : List TypeId} {ds : List (DataW H)} (h : (DataW.weightsEach P ts ds).all (· ≤ reachBytes) = true) {j : Nat} {t : TypeId} {d : DataW H} (ht : ts[j]? = some t) (hd : ds[j]? = some d) : Small P t d :=
  List.all_eq_true.2 fun n hn => List.all_eq_true.1 h n (DataW.weights_mem_each ht hd n hn)
theorem small_struct {t : TypeId} {fs : Array Field} {parts : List (DataW H)} (h : Small P t (.agg parts)) (hu : P.underlying t = some (.struct fs)) {j : Nat} {u : TypeId} {d : DataW H} (ht : (fs.toList.map (·.type))[j]? = some u) (hd : parts[j]? = some d) : Small P u d := by
  unfold Small at h
  simp only [DataW.weights, hu] at h
  exact small_each h ht hd
theorem small_all {e : TypeId} : ∀ {ds : List (DataW H)}, (DataW.weightsAll P e ds).all (· ≤ reachBytes) = true → ∀ d ∈ ds, Small P e d
  | [], _, d, hd => by cases hd
  | x :: r, h, d, hd => by
    simp only [DataW.weightsAll, List.all_append, Bool.and_eq_true] at h
    rcases List.mem_cons.1 hd with rfl | hd
    · exact h.1
    · exact small_all h.2 d hd
theorem small_slice {t e : TypeId} {elems spare : List (DataW H)} (h : Small P t (.slice elems spare)) (hu : P.underlying t = some (.slice e)) : (elems.length + spare.length) * P.bytesOf e ≤ reachBytes ∧ ∀ d ∈ elems, Small P e d := by
  unfold Small at h
  simp only [DataW.weights, hu, List.all_cons, List.all_append, Bool.and_eq_true, decide_eq_true_eq] at h
  exact ⟨h.1, small_all h.2.1⟩
theorem wf_i64 {n : Int} (h : (Lit.int .i64 n).wf = true) : -9223372036854775808 ≤ n ∧ n ≤ 9223372036854775807 := by
  simp only [Lit.wf, Bool.and_eq_true, decide_eq_true_eq] at h
  have h1 : IntKind.i64.min = -9223372036854775808 := by decide
  have h2 : IntKind.i64.max = 9223372036854775807 := by decide
  omega
theorem spot_none {a : Addr} {v : Value} (h : w.cell? a = some v) : a.spot = none := World.cell?_spot h
end
end Go.Proofs.Gw
namespace Go.Proofs.Gw
open Go Go.RowKit Go.ChangeShapes Go.WideShapes Go.ChangeAt
section
variable {H : Type} {enc : TypeId × Value → H} {P : Program} {w : World} {held : Bool}
def Rd {H : Type} (enc : TypeId × Value → H) (P : Program) (w : World) (held : Bool) (t : TypeId) (cs : List Value) : Prop := ∃ fuel y, DataW.trod enc P w 0 (fun _ => true) held fuel t cs = some y ∧ Small P t y.1
theorem Rd.int {k : IntKind} {t : TypeId} {cs : List Value} (h : Rd enc P w held t cs) (ht : P.underlying t = some (.int k)) : ∃ n, cs = [.int k n] ∧ (Lit.int k n).wf = true := by
  obtain ⟨fuel, y, h, _⟩ := h
  obtain ⟨n, h1, _, h2⟩ := DataW.trod_int ht h
  exact ⟨n, h1, h2⟩
theorem Rd.intv {k : IntKind} {t : TypeId} {v : Value} (h : Rd enc P w held t [v]) (ht : P.underlying t = some (.int k)) : ∃ n, v = .int k n ∧ (Lit.int k n).wf = true := by
  obtain ⟨n, h1, h2⟩ := h.int ht
  exact ⟨n, by simpa using h1, h2⟩
theorem Rd.struct {fs : Array Field} {t : TypeId} {cs : List Value} (h : Rd enc P w held t cs) (ht : P.underlying t = some (.struct fs)) : ∀ (j : Nat) (f : Field), fs[j]? = some f → Rd enc P w held f.type ((cs.drop f.offset).take (P.cellsOf f.type)) := fun j f hf => by
  obtain ⟨fuel, y, h, hs⟩ := h
  obtain ⟨xs, n, _, rfl, hl, hlen, hx⟩ := DataW.trod_struct ht h
  have hj : j < xs.length := by rw [hlen]; exact (Array.getElem?_eq_some_iff.1 hf).1
  have h1 := hx j f hf
  rw [List.getElem?_eq_getElem hj] at h1
  exact ⟨n, _, h1, small_struct (j := j) hs ht (by simp [hf]) (by simp [hj])⟩
theorem Rd.len {fs : Array Field} {t : TypeId} {cs : List Value} (h : Rd enc P w held t cs) (ht : P.underlying t = some (.struct fs)) : cs.length = P.cellsOf t := by
  obtain ⟨fuel, y, h, hs⟩ := h
  obtain ⟨xs, n, _, rfl, hl, hlen, hx⟩ := DataW.trod_struct ht h
  exact hl
theorem Rd.slice {t e : TypeId} {s b : Nat} {v : Value} (h : Rd enc P w held t [v]) (ht : P.underlying t = some (.slice e)) (ce : P.cellsOf e = s) (be : P.bytesOf e = b) (hs1 : 1 ≤ s) (hsb : s ≤ b) :
    ∃ (n : Int) (c : Int → Value), Row w v s n c ∧ b * n ≤ 140737488351232 ∧ ∀ i : Int, 0 ≤ i → i < n → Rd enc P w held e ((List.range s).map fun j : Nat => c (i * s + j)) := by
  obtain ⟨fuel, y, h, hs⟩ := h
  rcases Go.Deep.open_slice ht h with ⟨hcs, _⟩ | ⟨a, len, cap, m, n, D, Pl, hcs, _, hl, hm, hmm, hy, hx⟩
  · simp only [List.cons.injEq, and_true] at hcs
    subst hcs
    exact ⟨0, fun _ => undef, ⟨⟨by omega, by omega, none, 0, rfl, .inl rfl⟩, fun k hk => by rw [Int.zero_mul] at hk; omega⟩, by omega, fun i a0 a1 => by omega⟩
  · simp only [List.cons.injEq, and_true] at hcs
    subst hcs
    simp only [if_true] at hmm
    subst hmm
    rw [hy] at hs
    have hsm := small_slice hs ht
    have hb1 := hsm.1
    rw [be] at hb1
    simp only [List.length_map, List.length_range] at hb1
    have h2 : len * b ≤ (len + (m - len)) * b := Nat.mul_le_mul_right _ (by omega)
    have h3 : len * b ≤ 140737488351232 := by unfold reachBytes at hb1; omega
    have h4 : len * 1 ≤ len * b := Nat.mul_le_mul_left _ (by omega)
    rw [ce] at hx
    have e0 : ∀ i : Nat, ∃ cs' : List Value, i < len → w.cells? 0 (a.add (i * s)) s = some cs' ∧ DataW.trod enc P w 0 (fun _ => true) held n e cs' = some (D i, Pl i) := fun i => by
      by_cases hi : i < len
      · obtain ⟨cs', h5, h6⟩ := hx i (by omega)
        exact ⟨cs', fun _ => ⟨h5, h6⟩⟩
      · exact ⟨[], fun h => absurd h hi⟩
    obtain ⟨C, hC⟩ := Classical.axiomOfChoice e0
    have hsp0 : 0 < len → a.spot = none := fun h0 => by
      obtain ⟨_, h7, h8⟩ := World.cells?_some (hC 0 h0).1
      have h9 := h8 0 (by omega)
      rw [List.getElem?_eq_getElem (by omega)] at h9
      have h10 := spot_none h9
      simpa [Addr.add] using h10
    refine ⟨len, fun k => (C (k / s).toNat).getD (k % s).toNat undef, ⟨⟨by omega, by omega, some a, m, by simp, ?_⟩, fun j hj => ?_⟩, ?_, fun i i0 i1 => ?_⟩
    · by_cases hl0 : len = 0
      · left; omega
      · right
        have hsp := hsp0 (by omega)
        exact ⟨a.block, a.off, by cases a; simp at hsp; simp [hsp]⟩
    · have hjs : j < len * s := by rw [← Int.natCast_mul] at hj; omega
      have hi : j / s < len := (Nat.div_lt_iff_lt_mul (by omega)).2 hjs
      have hlen0 : 0 < len := Nat.lt_of_le_of_lt (Nat.zero_le _) hi
      have hsp := hsp0 hlen0
      obtain ⟨_, h7, h8⟩ := World.cells?_some (hC (j / s) hi).1
      have hr : j % s < s := Nat.mod_lt _ (by omega)
      have h9 := h8 (j % s) hr
      rw [Addr.add_eq a hsp, Addr.add_eq _ rfl] at h9
      have e1 : ((j : Int) / (s : Int)).toNat = j / s := by rw [← Int.natCast_ediv, Int.toNat_natCast]
      have e2 : ((j : Int) % (s : Int)).toNat = j % s := by rw [← Int.natCast_emod, Int.toNat_natCast]
      have e3 : a.off + j / s * s + j % s = a.off + j := by rw [Nat.add_assoc, Nat.mul_comm, Nat.div_add_mod]
      rw [List.getElem?_eq_getElem (by omega)] at h9
      simp only [e1, e2, List.getD_eq_getElem?_getD]
      rw [List.getElem?_eq_getElem (by omega)]
      simp only [cad, Int.toNat_natCast, Option.getD_some]
      simp only [e3] at h9
      exact h9
    · have : ((len * b : Nat) : Int) = b * len := by rw [Int.natCast_mul, Int.mul_comm]
      omega
    · obtain ⟨k, rfl⟩ := Int.eq_ofNat_of_zero_le i0
      have hk : k < len := by omega
      obtain ⟨h5, h6⟩ := hC k hk
      obtain ⟨_, h7, h8⟩ := World.cells?_some h5
      have e : ((List.range s).map fun j : Nat => (C (((k : Int) * (s : Int) + (j : Int)) / (s : Int)).toNat).getD (((k : Int) * (s : Int) + (j : Int)) % (s : Int)).toNat undef) = C k := by
        apply List.ext_getElem
        · simp [h7]
        · intro j hj1 hj2
          rw [List.getElem_map, List.getElem_range]
          have hjs : j < s := by simpa using hj1
          have e0 : ((k : Int) * (s : Int) + (j : Int)) = ((k * s + j : Nat) : Int) := by rw [Int.natCast_add, Int.natCast_mul]
          have e1 : (((k * s + j : Nat) : Int) / (s : Int)).toNat = k := by
            rw [← Int.natCast_ediv, Int.toNat_natCast, Nat.mul_comm, Nat.mul_add_div (by omega), Nat.div_eq_of_lt hjs, Nat.add_zero]
          have e2 : (((k * s + j : Nat) : Int) % (s : Int)).toNat = j := by
            rw [← Int.natCast_emod, Int.toNat_natCast, Nat.mul_comm, Nat.mul_add_mod, Nat.mod_eq_of_lt hjs]
          rw [e0, e1, e2, List.getD_eq_getElem?_getD, List.getElem?_eq_getElem hj2, Option.getD_some]
      rw [e]
      exact ⟨n, _, h6, hsm.2 (D k) (List.mem_map.2 ⟨k, List.mem_range.2 hk, rfl⟩)⟩
theorem Rd.array {n : Nat} {t e : TypeId} {cs : List Value} (h : Rd enc P w held t cs) (ht : P.underlying t = some (.array n e)) : ∀ i, i < n → Rd enc P w held e ((cs.drop (i * P.cellsOf e)).take (P.cellsOf e)) := fun i hi => by
  obtain ⟨fuel, y, h, hs⟩ := h
  obtain ⟨xs, m, _, rfl, _, hl, hel⟩ := DataW.trod_array ht h
  have h1 := hel i hi
  rw [List.getElem?_eq_getElem (by omega)] at h1
  refine ⟨m, _, h1, ?_⟩
  unfold Small at hs
  simp only [DataW.weights, ht] at hs
  exact small_all hs _ (List.mem_map.2 ⟨xs[i], List.getElem_mem _, rfl⟩)
theorem Rd.field {fs : Array Field} {t u : TypeId} {cs ds : List Value} (h : Rd enc P w held t cs) (ht : P.underlying t = some (.struct fs)) (j : Nat) {f : Field} (hf : fs[j]? = some f) {k : Nat} (hu : f.type = u) (hk : P.cellsOf u = k) (hd : (cs.drop f.offset).take k = ds) : Rd enc P w held u ds := by
  subst hu; subst hd; rw [← hk]; exact h.struct ht j f hf
theorem toList_inj {cs : Array Value} {l : List Value} (h : cs.toList = l) : cs = l.toArray := by subst h; simp
theorem Rd.arg {t : TypeId} {v : Value} {d : DataW H} {p : List MemPlace} (h : DataW.Trod enc P w 0 (fun _ => true) held t v d p) (hs : Small P t d) : Rd enc P w held t v.cells.toList := by
  obtain ⟨fuel, hf⟩ := h
  exact ⟨fuel, _, hf, hs⟩
theorem list3 {cs : List Value} (h : cs.length = 3) : ∃ a b c, cs = [a, b, c] := by match cs, h with | [a, b, c], _ => exact ⟨_, _, _, rfl⟩
theorem list5 {cs : List Value} (h : cs.length = 5) : ∃ a b c d e, cs = [a, b, c, d, e] := by match cs, h with | [a, b, c, d, e], _ => exact ⟨_, _, _, _, _, rfl⟩
theorem Rd.nums {k : IntKind} {t e : TypeId} {b : Nat} {v : Value} (h : Rd enc P w held t [v]) (ht : P.underlying t = some (.slice e)) (he : P.underlying e = some (.int k)) (hc : P.cellsOf e = 1) (hb : P.bytesOf e = b) (hb1 : 1 ≤ b) :
    ∃ (n : Int) (f : Int → Int), Row w v 1 n (fun j => .int k (f j)) ∧ b * n ≤ 140737488351232 ∧ ∀ j, (Lit.int k (f j)).wf = true := by
  obtain ⟨n, c, h1, h2, h3⟩ := h.slice ht hc hb (by omega) hb1
  have h0 : (Lit.int k 0).wf = true := by cases k <;> decide
  have e0 : ∀ i : Int, ∃ x : Int, (Lit.int k x).wf = true ∧ (0 ≤ i → i < n → c i = .int k x) := fun i => by
    by_cases hi : 0 ≤ i ∧ i < n
    · have h4 := h3 i hi.1 hi.2
      simp only [List.range_one, List.map_cons, List.map_nil] at h4
      obtain ⟨x, hx, hw⟩ := h4.intv he
      refine ⟨x, hw, fun _ _ => ?_⟩
      rw [← hx]; congr 1; omega
    · exact ⟨0, h0, fun a0 a1 => absurd ⟨a0, a1⟩ hi⟩
  obtain ⟨f, hf⟩ := Classical.axiomOfChoice e0
  exact ⟨n, f, h1.congr fun i i0 i1 => (hf i).2 i0 (by omega), h2, fun j => (hf j).1⟩
theorem Rd.ints {t e : TypeId} {v : Value} (h : Rd enc P w held t [v]) (ht : P.underlying t = some (.slice e)) (he : P.underlying e = some (.int .i64)) (hc : P.cellsOf e = 1) (hb : P.bytesOf e = 8) : ∃ (n : Int) (f : Int → Int), IAt w v n f := by
  obtain ⟨n, f, h1, _, h2⟩ := h.nums ht he hc hb (by omega)
  exact ⟨n, f, h1, fun k => wf_i64 (h2 k)⟩
end
end Go.Proofs.Gw
namespace Go.Proofs.Gw
open Go Go.RowKit
section
variable {H : Type} {enc : TypeId × Value → H} {P : Program} {w : World} {held : Bool}
theorem Rd.roomy {t e : TypeId} {v : Value} (h : Rd enc P w true t [v]) (ht : P.underlying t = some (.slice e)) : Roomy v := by
  obtain ⟨fuel, y, h, hs⟩ := h
  rcases Go.Deep.open_slice ht h with ⟨hcs, _⟩ | ⟨a, len, cap, m, n, D, Pl, hcs, _, hl, hm, hmm, hy, hx⟩
  · simp only [List.cons.injEq, and_true] at hcs
    subst hcs
    intro a len cap e
    cases e
    omega
  · simp only [List.cons.injEq, and_true] at hcs
    subst hcs
    simp only [if_true] at hmm
    subst hmm
    intro a len cap e
    cases e
    omega
end
end Go.Proofs.Gw
namespace Go.Proofs.Gw
open Go Go.RowKit
section
variable {H : Type} {enc : TypeId × Value → H} {P : Program} {w : World} {held : Bool}
theorem Rd.uses {t e i : TypeId} {f0 f1 : Field} {b : Nat} {v : Value} (h : Rd enc P w true t [v]) (ht : P.underlying t = some (.slice e)) (he : P.underlying e = some (.struct #[f0, f1])) (ce : P.cellsOf e = 2) (be : P.bytesOf e = b) (hb : 2 ≤ b)
    (o0 : f0.offset = 0) (o1 : f1.offset = 1) (c0 : P.cellsOf f0.type = 1) (c1 : P.cellsOf f1.type = 1) (u0 : P.underlying f0.type = some (.slice i)) (u1 : P.underlying f1.type = some (.int .i64)) (hi : P.underlying i = some (.int .i64)) (ci : P.cellsOf i = 1) (bi : P.bytesOf i = 8) :
    ∃ (n : Int) (pv : Int → Value) (ln : Int → Int) (pt : Int → Int → Int) (cnt : Int → Int), UAt w v n pv ln pt cnt ∧ ∀ k, 0 ≤ k → k < n → Roomy (pv k) := by
  obtain ⟨n, c, h1, h2, h3⟩ := h.slice ht ce be (by omega) hb
  have e0 : ∀ k : Int, ∃ x : Value × Int × (Int → Int) × Int, (0 ≤ k → k < n → c (2 * k) = x.1 ∧ c (2 * k + 1) = .int .i64 x.2.2.2 ∧ IAt w x.1 x.2.1 x.2.2.1 ∧ Roomy x.1) ∧ (-9223372036854775808 ≤ x.2.2.2 ∧ x.2.2.2 ≤ 9223372036854775807) := fun k => by
    by_cases hk : 0 ≤ k ∧ k < n
    · have h4 := h3 k hk.1 hk.2
      have e : ((List.range 2).map fun j : Nat => c (k * (2 : Nat) + j)) = [c (2 * k), c (2 * k + 1)] := by
        simp [List.range_succ]
        exact ⟨by congr 1; omega, by congr 1; omega⟩
      rw [e] at h4
      have h5 := h4.field he 0 rfl rfl c0 (ds := [c (2 * k)]) (by show List.take 1 (List.drop f0.offset _) = _; rw [o0]; rfl)
      obtain ⟨m, f, hf⟩ := h5.ints u0 hi ci bi
      obtain ⟨y, hy, wy⟩ := (h4.field he 1 rfl rfl c1 (ds := [c (2 * k + 1)]) (by show List.take 1 (List.drop f1.offset _) = _; rw [o1]; rfl)).intv u1
      exact ⟨(c (2 * k), m, f, y), fun _ _ => ⟨rfl, hy, hf, h5.roomy u0⟩, wf_i64 wy⟩
    · exact ⟨(undef, 0, fun _ => 0, 0), fun a0 a1 => absurd ⟨a0, a1⟩ hk, by dsimp only; omega⟩
  obtain ⟨f, hf⟩ := Classical.axiomOfChoice e0
  refine ⟨n, fun k => (f k).1, fun k => (f k).2.1, fun k => (f k).2.2.1, fun k => (f k).2.2.2, ⟨h1.congr fun k k0 k1 => ?_, fun k k0 k1 => ((hf k).1 k0 k1).2.2.1, fun k => (hf k).2⟩, fun k k0 k1 => ((hf k).1 k0 k1).2.2.2⟩
  unfold ucells
  by_cases e : k % 2 = 0
  · rw [if_pos e]; show c k = (f (k / 2)).1; rw [← ((hf (k / 2)).1 (by omega) (by omega)).1]; congr 1; omega
  · rw [if_neg e]; show c k = .int .i64 (f (k / 2)).2.2.2; rw [← ((hf (k / 2)).1 (by omega) (by omega)).2.1]; congr 1; omega
end
end Go.Proofs.Gw
namespace Go.Proofs.Gw
open Go Go.RowKit Go.ChangeShapes Go.WideShapes Go.ChangeAt
section
variable {H : Type} {enc : TypeId × Value → H} {P : Program} {w : World} {held : Bool}
def RdD {H : Type} (enc : TypeId × Value → H) (P : Program) (w : World) (held : Bool) (t : TypeId) (cs : List Value) (d : DataW H) : Prop := ∃ fuel y, DataW.trod enc P w 0 (fun _ => true) held fuel t cs = some y ∧ y.1 = d ∧ Small P t y.1
theorem RdD.rd {t : TypeId} {cs : List Value} {d : DataW H} (h : RdD enc P w held t cs d) : Rd enc P w held t cs := by
  obtain ⟨fuel, y, h, _, hs⟩ := h; exact ⟨fuel, y, h, hs⟩
theorem Rd.data {t : TypeId} {cs : List Value} (h : Rd enc P w held t cs) : ∃ d, RdD enc P w held t cs d := by
  obtain ⟨fuel, y, h, hs⟩ := h; exact ⟨y.1, fuel, y, h, rfl, hs⟩
theorem RdD.struct {fs : Array Field} {t : TypeId} {cs : List Value} {d : DataW H} (h : RdD enc P w held t cs d) (ht : P.underlying t = some (.struct fs)) (j : Nat) {f : Field} (hf : fs[j]? = some f) {u : TypeId} (hu : f.type = u) {k : Nat} (hk : P.cellsOf u = k) {ds : List Value} (hds : (cs.drop f.offset).take k = ds) : ∃ d', SizeOf.sizeOf d' < SizeOf.sizeOf d ∧ RdD enc P w held u ds d' := by
  subst hu; subst hk; subst hds
  obtain ⟨fuel, y, h, hd, hs⟩ := h
  obtain ⟨xs, n, _, rfl, hl, hlen, hx⟩ := DataW.trod_struct ht h
  have hj : j < xs.length := by rw [hlen]; exact (Array.getElem?_eq_some_iff.1 hf).1
  have h1 := hx j f hf
  rw [List.getElem?_eq_getElem hj] at h1
  have hmem : (xs[j]).1 ∈ xs.map (·.1) := List.mem_map.2 ⟨_, List.getElem_mem hj, rfl⟩
  refine ⟨(xs[j]).1, ?_, n, _, h1, rfl, small_struct (j := j) hs ht (by simp [hf]) (by simp [hj])⟩
  have h9 := List.sizeOf_lt_of_mem hmem
  rw [← hd]
  simp only [DataW.agg.sizeOf_spec]
  omega
theorem RdD.slice {t e : TypeId} {s b : Nat} {v : Value} {d : DataW H} (h : RdD enc P w held t [v] d) (ht : P.underlying t = some (.slice e)) (ce : P.cellsOf e = s) (be : P.bytesOf e = b) (hs1 : 1 ≤ s) (hsb : s ≤ b) :
    ∃ (n : Int) (c : Int → Value), Row w v s n c ∧ b * n ≤ 140737488351232 ∧ ∀ i : Int, 0 ≤ i → i < n → ∃ d', SizeOf.sizeOf d' < SizeOf.sizeOf d ∧ RdD enc P w held e ((List.range s).map fun j : Nat => c (i * s + j)) d' := by
  obtain ⟨fuel, y, h, hd, hs⟩ := h
  rcases Go.Deep.open_slice ht h with ⟨hcs, _⟩ | ⟨a, len, cap, m, n, D, Pl, hcs, _, hl, hm, hmm, hy, hx⟩
  · simp only [List.cons.injEq, and_true] at hcs
    subst hcs
    exact ⟨0, fun _ => undef, ⟨⟨by omega, by omega, none, 0, rfl, .inl rfl⟩, fun k hk => by rw [Int.zero_mul] at hk; omega⟩, by omega, fun i a0 a1 => by omega⟩
  · simp only [List.cons.injEq, and_true] at hcs
    subst hcs
    simp only [if_true] at hmm
    subst hmm
    rw [hy] at hs
    have hsm := small_slice hs ht
    have hb1 := hsm.1
    rw [be] at hb1
    simp only [List.length_map, List.length_range] at hb1
    have h2 : len * b ≤ (len + (m - len)) * b := Nat.mul_le_mul_right _ (by omega)
    have h3 : len * b ≤ 140737488351232 := by unfold reachBytes at hb1; omega
    have h4 : len * 1 ≤ len * b := Nat.mul_le_mul_left _ (by omega)
    rw [ce] at hx
    have e0 : ∀ i : Nat, ∃ cs' : List Value, i < len → w.cells? 0 (a.add (i * s)) s = some cs' ∧ DataW.trod enc P w 0 (fun _ => true) held n e cs' = some (D i, Pl i) := fun i => by
      by_cases hi : i < len
      · obtain ⟨cs', h5, h6⟩ := hx i (by omega)
        exact ⟨cs', fun _ => ⟨h5, h6⟩⟩
      · exact ⟨[], fun h => absurd h hi⟩
    obtain ⟨C, hC⟩ := Classical.axiomOfChoice e0
    have hsp0 : 0 < len → a.spot = none := fun h0 => by
      obtain ⟨_, h7, h8⟩ := World.cells?_some (hC 0 h0).1
      have h9 := h8 0 (by omega)
      rw [List.getElem?_eq_getElem (by omega)] at h9
      have h10 := spot_none h9
      simpa [Addr.add] using h10
    refine ⟨len, fun k => (C (k / s).toNat).getD (k % s).toNat undef, ⟨⟨by omega, by omega, some a, m, by simp, ?_⟩, fun j hj => ?_⟩, ?_, fun i i0 i1 => ?_⟩
    · by_cases hl0 : len = 0
      · left; omega
      · right
        have hsp := hsp0 (by omega)
        exact ⟨a.block, a.off, by cases a; simp at hsp; simp [hsp]⟩
    · have hjs : j < len * s := by rw [← Int.natCast_mul] at hj; omega
      have hi : j / s < len := (Nat.div_lt_iff_lt_mul (by omega)).2 hjs
      have hlen0 : 0 < len := Nat.lt_of_le_of_lt (Nat.zero_le _) hi
      have hsp := hsp0 hlen0
      obtain ⟨_, h7, h8⟩ := World.cells?_some (hC (j / s) hi).1
      have hr : j % s < s := Nat.mod_lt _ (by omega)
      have h9 := h8 (j % s) hr
      rw [Addr.add_eq a hsp, Addr.add_eq _ rfl] at h9
      have e1 : ((j : Int) / (s : Int)).toNat = j / s := by rw [← Int.natCast_ediv, Int.toNat_natCast]
      have e2 : ((j : Int) % (s : Int)).toNat = j % s := by rw [← Int.natCast_emod, Int.toNat_natCast]
      have e3 : a.off + j / s * s + j % s = a.off + j := by rw [Nat.add_assoc, Nat.mul_comm, Nat.div_add_mod]
      rw [List.getElem?_eq_getElem (by omega)] at h9
      simp only [e1, e2, List.getD_eq_getElem?_getD]
      rw [List.getElem?_eq_getElem (by omega)]
      simp only [cad, Int.toNat_natCast, Option.getD_some]
      simp only [e3] at h9
      exact h9
    · have : ((len * b : Nat) : Int) = b * len := by rw [Int.natCast_mul, Int.mul_comm]
      omega
    · obtain ⟨k, rfl⟩ := Int.eq_ofNat_of_zero_le i0
      have hk : k < len := by omega
      obtain ⟨h5, h6⟩ := hC k hk
      obtain ⟨_, h7, h8⟩ := World.cells?_some h5
      have e : ((List.range s).map fun j : Nat => (C (((k : Int) * (s : Int) + (j : Int)) / (s : Int)).toNat).getD (((k : Int) * (s : Int) + (j : Int)) % (s : Int)).toNat undef) = C k := by
        apply List.ext_getElem
        · simp [h7]
        · intro j hj1 hj2
          rw [List.getElem_map, List.getElem_range]
          have hjs : j < s := by simpa using hj1
          have e0 : ((k : Int) * (s : Int) + (j : Int)) = ((k * s + j : Nat) : Int) := by rw [Int.natCast_add, Int.natCast_mul]
          have e1 : (((k * s + j : Nat) : Int) / (s : Int)).toNat = k := by
            rw [← Int.natCast_ediv, Int.toNat_natCast, Nat.mul_comm, Nat.mul_add_div (by omega), Nat.div_eq_of_lt hjs, Nat.add_zero]
          have e2 : (((k * s + j : Nat) : Int) % (s : Int)).toNat = j := by
            rw [← Int.natCast_emod, Int.toNat_natCast, Nat.mul_comm, Nat.mul_add_mod, Nat.mod_eq_of_lt hjs]
          rw [e0, e1, e2, List.getD_eq_getElem?_getD, List.getElem?_eq_getElem hj2, Option.getD_some]
      rw [e]
      have hmem : D k ∈ (List.range len).map D := List.mem_map.2 ⟨k, List.mem_range.2 hk, rfl⟩
      refine ⟨D k, ?_, n, _, h6, rfl, hsm.2 (D k) hmem⟩
      rw [← hd, hy]
      have h9 := List.sizeOf_lt_of_mem hmem
      simp only [DataW.slice.sizeOf_spec]
      omega
theorem tree_read {T TK TL TI : TypeId} {f0 f1 f2 : Field} (hT : P.underlying T = some (.struct #[f0, f1, f2])) (o0 : f0.offset = 0) (o1 : f1.offset = 1) (o2 : f2.offset = 2) (t0 : f0.type = TI) (t1 : f1.type = TK) (t2 : f2.type = TL)
    (hTK : P.underlying TK = some (.slice T)) (hTL : P.underlying TL = some (.slice TI)) (hTI : P.underlying TI = some (.int .i64)) (cT : P.cellsOf T = 3) (bT : P.bytesOf T = 56) (cK : P.cellsOf TK = 1) (cL : P.cellsOf TL = 1) (cI : P.cellsOf TI = 1) (bI : P.bytesOf TI = 8) :
    ∀ (N : Nat) {d : DataW H} {cs : List Value}, SizeOf.sizeOf d < N → RdD enc P w true T cs d → ∃ t : Tr, cs = [.int .i64 t.s, t.vK, t.vL] ∧ KAt w t ∧ LvAt w t
  | 0, d, cs, hN, h => by omega
  | N + 1, d, cs, hN, h => by
    have hl := h.rd.len hT
    rw [cT] at hl
    obtain ⟨a, b, c, rfl⟩ := list3 hl
    obtain ⟨d0, _, h0⟩ := h.struct hT 0 rfl t0 cI (ds := [a]) (by show List.take 1 (List.drop f0.offset _) = _; rw [o0]; rfl)
    obtain ⟨d1, l1, h1⟩ := h.struct hT 1 rfl t1 cK (ds := [b]) (by show List.take 1 (List.drop f1.offset _) = _; rw [o1]; rfl)
    obtain ⟨d2, _, h2⟩ := h.struct hT 2 rfl t2 cL (ds := [c]) (by show List.take 1 (List.drop f2.offset _) = _; rw [o2]; rfl)
    obtain ⟨s, rfl, ws⟩ := h0.rd.intv hTI
    obtain ⟨nl, l, hL⟩ := h2.rd.ints hTL hTI cI bI
    have hR := h2.rd.roomy hTL
    obtain ⟨n, q, hq, hb, hk⟩ := h1.slice hTK cT bT (by omega) (by omega)
    have e0 : ∀ i : Int, ∃ t : Tr, 0 ≤ i → i < n → (q (3 * i) = .int .i64 t.s ∧ q (3 * i + 1) = t.vK ∧ q (3 * i + 2) = t.vL) ∧ KAt w t ∧ LvAt w t := fun i => by
      by_cases hi : 0 ≤ i ∧ i < n
      · obtain ⟨d', l', h'⟩ := hk i hi.1 hi.2
        obtain ⟨t, e1, e2, e3⟩ := tree_read hT o0 o1 o2 t0 t1 t2 hTK hTL hTI cT bT cK cL cI bI N (by omega) h'
        have e : ((List.range 3).map fun j : Nat => q (i * (3 : Nat) + j)) = [q (3 * i), q (3 * i + 1), q (3 * i + 2)] := by
          simp [List.range_succ]
          exact ⟨by congr 1; omega, by congr 1; omega, by congr 1; omega⟩
        rw [e] at e1
        simp only [List.cons.injEq, and_true] at e1
        exact ⟨t, fun _ _ => ⟨e1, e2, e3⟩⟩
      · exact ⟨Tr.nil, fun a0 a1 => absurd ⟨a0, a1⟩ hi⟩
    obtain ⟨kid, hkid⟩ := Classical.axiomOfChoice e0
    refine ⟨.mk s b n kid c nl l, rfl, ⟨⟨hq.congr fun k k0 k1 => ?_, by omega⟩, fun i i0 i1 => (hkid i i0 i1).2.1⟩, ⟨hL, hR, wf_i64 ws⟩, fun i i0 i1 => (hkid i i0 i1).2.2⟩
    have k1' : k < n * 3 := k1
    obtain ⟨⟨g0, g1, g2⟩, _⟩ := hkid (k / 3) (by omega) (by omega)
    unfold kcells tcells
    have hc : k % 3 = 0 ∨ k % 3 = 1 ∨ k % 3 = 2 := by omega
    rcases hc with hc | hc | hc
    · rw [if_pos hc, ← g0]; congr 1; omega
    · rw [if_neg (by omega), if_pos hc]; show _ = (kid (k / 3)).vK; rw [← g1]; congr 1; omega
    · rw [if_neg (by omega), if_neg (by omega)]; show _ = (kid (k / 3)).vL; rw [← g2]; congr 1; omega
end
end Go.Proofs.Gw
