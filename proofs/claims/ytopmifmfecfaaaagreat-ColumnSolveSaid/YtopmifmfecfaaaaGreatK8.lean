/- Plain laws on prices and parts of patterns. -/
import Derived.Test.YtopmifmfecfaaaaGreatGv
import Derived.Test.YtopmifmfecfaaaaGreatK7
namespace Go.Proofs.YtopmifmfecfaaaaGreat
open Go Go.RowKit Go.Proofs.Gw
set_option linter.unusedVariables false

/-- Whatever stays within the demands and fits on a bar is worth at most WC. -/
theorem wc_top {p : Prob} (hp : p.Ok) {y x : Int → Int} (hx : ∀ i, 0 ≤ i → i < p.m → 0 ≤ x i ∧ x i ≤ p.D i) (hu : Used p x p.m.toNat ≤ p.stock + p.kerf) : sumTo (fun i => x i * y i) p.m.toNat ≤ WC p y := by
  have hm := hp.m1; have hk := hp.k1
  refine KI_top (t := itsOf p y) (by show 0 ≤ p.m; omega) (fun i i0 i1 => ?_) hx hu
  have := hp.all i i0 i1
  unfold Prob.each at this
  show 1 ≤ p.L i + p.kerf
  omega
theorem used_min {p : Prob} {n : Int} {a : Int → Int} (h : FitsP p n a) (D : Int → Int) (hD : ∀ i, 0 ≤ i → i < p.m → 0 ≤ D i) : Used p (fun k => min (a k) (D k)) p.m.toNat ≤ p.stock + p.kerf := by
  have hp := h.ok
  have hm := hp.m1; have hk := hp.k1
  refine Int.le_trans (sumTo_le fun i h0 h1 => ?_) h.used
  have := h.all i h0 (by omega)
  have h2 := hp.all i h0 (by omega)
  unfold Prob.each at h2
  have := hD i h0 (by omega)
  exact Int.mul_le_mul_of_nonneg_right (show min (a i) (D i) ≤ a i by omega) (by omega)
theorem dem_nn {p : Prob} (hp : p.Ok) {i : Int} (i0 : 0 ≤ i) (i1 : i < p.m) : 0 ≤ p.D i ∧ p.D i ≤ 1000 ∧ 1 ≤ p.L i ∧ p.L i ≤ p.stock := by
  have h2 := hp.all i i0 i1
  unfold Prob.each at h2; omega
/-- Patterns in parts: whatever makes the demand by them has at least as many bars as prices say. x: how often, q: the parts. -/
theorem parts_weak {p : Prob} (hp : p.Ok) {y : Int → Int} (hy : ∀ i, 0 ≤ i → i < p.m → 0 ≤ y i) {W q : Int} {u : Nat} {x : Int → Int} {f : Int → Int → Int} {D : Int → Int} (hx : ∀ j, 0 ≤ j → j < (u : Int) → 0 ≤ x j) (hW : ∀ j, 0 ≤ j → j < (u : Int) → sumTo (fun k => f j k * y k) p.m.toNat ≤ W)
    (hb : ∀ k, 0 ≤ k → k < p.m → D k * q ≤ sumTo (fun j => f j k * x j) u) : sumTo (fun k => D k * y k) p.m.toNat * q ≤ sumTo x u * W := by
  have hm := hp.m1
  have e1 : sumTo (fun k => D k * y k) p.m.toNat * q = sumTo (fun k => D k * q * y k) p.m.toNat := by
    rw [← sumTo_mul]; exact sumTo_congr fun k _ _ => by grind
  have e2 : sumTo (fun k => D k * q * y k) p.m.toNat ≤ sumTo (fun k => sumTo (fun j => f j k * x j) u * y k) p.m.toNat := sumTo_le fun k k0 k1 => Int.mul_le_mul_of_nonneg_right (hb k k0 (by omega)) (hy k k0 (by omega))
  have e3 : sumTo (fun k => sumTo (fun j => f j k * x j) u * y k) p.m.toNat = sumTo (fun k => sumTo (fun j => f j k * x j * y k) u) p.m.toNat := sumTo_congr fun k _ _ => (sumTo_mul _ _ _).symm
  have e4 : sumTo (fun k => sumTo (fun j => f j k * x j * y k) u) p.m.toNat = sumTo (fun j => sumTo (fun k => f j k * x j * y k) p.m.toNat) u := sumTo_comm (fun j k => f j k * x j * y k) u p.m.toNat
  have e5 : sumTo (fun j => sumTo (fun k => f j k * x j * y k) p.m.toNat) u ≤ sumTo (fun j => x j * W) u := sumTo_le fun j j0 j1 => by
    have : sumTo (fun k => f j k * x j * y k) p.m.toNat = sumTo (fun k => f j k * y k) p.m.toNat * x j := by
      rw [← sumTo_mul]; exact sumTo_congr fun k _ _ => by grind
    rw [this, Int.mul_comm (x j)]
    exact Int.mul_le_mul_of_nonneg_right (hW j j0 j1) (hx j j0 j1)
  rw [sumTo_mul] at e5
  omega
/-- What a solution of the linear program of patterns is known by. -/
structure MOk (p : Prob) (u : Int) (ml : Int → Int) (mf : Int → Int → Int) (s : So) : Prop where
  pats : PropL p u ml mf
  u0 : 0 ≤ u
  n : s.n = u
  m : s.m = p.m
  d1 : 1 ≤ s.den
  d2 : s.den ≤ 1073741824
  v : 0 ≤ s.val ∧ s.val ≤ 1073741824
  X : ∀ j, 0 ≤ j → j < u → 0 ≤ s.X j ∧ s.X j ≤ 1073741824
  Y : ∀ i, 0 ≤ i → i < p.m → 0 ≤ s.Y i ∧ s.Y i ≤ 1073741824
  rows : ∀ k, 0 ≤ k → k < p.m → p.D k * s.den ≤ sumTo (fun j => mf j k * s.X j) u.toNat
  cols : ∀ j, 0 ≤ j → j < u → sumTo (fun k => mf j k * s.Y k) p.m.toNat ≤ s.den
  cX : sumTo s.X u.toNat = s.val
  bY : sumTo (fun k => p.D k * s.Y k) p.m.toNat = s.val
theorem MSolveR.ok {p : Prob} {u : Int} {ml : Int → Int} {mf : Int → Int → Int} {s : So} (hu : 0 ≤ u) (h : MSolveR p u ml mf s 0) : MOk p u ml mf s := by
  rcases h with ⟨_, _, h⟩ | ⟨_, _, _, h⟩ | ⟨_, _, _, _, _, _, h⟩ | ⟨h1, h2, h3, h4, h5, h6, h7⟩ | ⟨h1, h2, h3, h4, h5⟩
  · omega
  · omega
  · omega
  · have hm := h1.1.m1; have hd := h1.1.d
    subst h6; subst h4
    have z : ∀ f : Int → Int, sumTo (fun k => f k * 0) p.m.toNat = 0 := fun f => by rw [sumTo_mul, Int.mul_zero]
    refine ⟨h1, by omega, rfl, rfl, by show (1 : Int) ≤ 1; decide, by show (1 : Int) ≤ 1073741824; decide, ⟨Int.le_refl _, by show (0 : Int) ≤ 1073741824; decide⟩, fun j a b => by omega, fun i _ _ => ⟨Int.le_refl _, by show (0 : Int) ≤ 1073741824; decide⟩, fun k k0 k1 => ?_, fun j a b => by omega, rfl, z p.D⟩
    have := h5 k k0 (by omega)
    show p.D k * 1 ≤ 0
    omega
  · have hm := h1.1.m1
    have hc := SolveR.chk (p := lpOf p u mf) (by show 0 ≤ p.m; omega) h5 rfl
    have hv : s.val = sumTo s.X u.toNat := by
      have := hc.cX
      rw [← this]; exact sumTo_congr fun k _ _ => by show 1 * s.X k = _; omega
    refine ⟨h1, by omega, hc.n, hc.m, hc.d1, hc.d2, ⟨?_, hc.v.2⟩, hc.X, hc.Y, fun k k0 k1 => ?_, fun j j0 j1 => ?_, hv.symm, hc.bY⟩
    · rw [hv]; exact sumTo_nonneg fun j j0 j1 => (hc.X j j0 (by show j < u; omega)).1
    · exact hc.rows k k0 k1
    · have := hc.cols j j0 j1
      have e : (lpOf p u mf).c j * s.den = s.den := by show 1 * s.den = _; omega
      rw [e] at this; exact this
theorem prop_used {p : Prob} {n : Int} {a : Int → Int} (h : ProperP p n a) : (∀ i, 0 ≤ i → i < p.m → 0 ≤ a i ∧ a i ≤ p.D i) ∧ Used p a p.m.toNat ≤ p.stock + p.kerf :=
  ⟨fun i i0 i1 => ⟨(h.1.all i i0 i1).1, h.2 i i0 (by rw [h.1.eq]; exact i1)⟩, h.1.used⟩
/-- Prices bound the value. -/
theorem MOk.bound {p : Prob} {u : Int} {ml : Int → Int} {mf : Int → Int → Int} {s : So} (h : MOk p u ml mf s) {y : Int → Int} (hy : ∀ i, 0 ≤ i → i < p.m → 0 ≤ y i) : sumTo (fun k => p.D k * y k) p.m.toNat * s.den ≤ s.val * WC p y := by
  have hp := h.pats.1
  have hu := h.u0
  rw [← h.cX]
  refine parts_weak hp hy (fun j j0 j1 => (h.X j j0 (by omega)).1) (fun j j0 j1 => ?_) h.rows
  obtain ⟨h1, h2⟩ := prop_used (h.pats.2 j j0 (by omega))
  exact wc_top hp h1 h2
/-- The value of prices that a bound is made of. -/
theorem bound_rat {T W B : Int} (hT : 0 ≤ T) (hW : 0 < W) (h : T ≤ B * W) : 1 ≤ W.tdiv (Int.gcd T W) ∧ T.tdiv (Int.gcd T W) ≤ B * W.tdiv (Int.gcd T W) := by
  have hg := gcd_pos1 hT (show 1 ≤ W by omega)
  obtain ⟨a, ha⟩ := Int.gcd_dvd_left T W
  obtain ⟨b, hb⟩ := Int.gcd_dvd_right T W
  have e1 : T.tdiv (Int.gcd T W) = a := by
    have : (Int.gcd T W : Int) * a = T := ha.symm
    calc T.tdiv (Int.gcd T W) = ((Int.gcd T W : Int) * a).tdiv (Int.gcd T W) := by rw [this]
      _ = a := Int.mul_tdiv_cancel_left _ (by omega)
  have e2 : W.tdiv (Int.gcd T W) = b := by
    have : (Int.gcd T W : Int) * b = W := hb.symm
    calc W.tdiv (Int.gcd T W) = ((Int.gcd T W : Int) * b).tdiv (Int.gcd T W) := by rw [this]
      _ = b := Int.mul_tdiv_cancel_left _ (by omega)
  rw [e1, e2]
  constructor
  · rcases Int.lt_or_le 0 b with h1 | h1
    · omega
    · have := Int.mul_nonneg (show 0 ≤ (Int.gcd T W : Int) by omega) (show 0 ≤ -b by omega)
      rw [Int.mul_neg] at this; omega
  · refine Int.le_of_mul_le_mul_left ?_ (show 0 < (Int.gcd T W : Int) by omega)
    rw [← ha, ← Int.mul_assoc, Int.mul_comm _ B, Int.mul_assoc, ← hb]; exact h
theorem rat_le {T W v d : Int} (hT : 0 ≤ T) (hW : 0 < W) (h : T * d ≤ v * W) : T.tdiv (Int.gcd T W) * d ≤ v * W.tdiv (Int.gcd T W) := by
  have hg := gcd_pos1 hT (show 1 ≤ W by omega)
  obtain ⟨a, ha⟩ := Int.gcd_dvd_left T W
  obtain ⟨b, hb⟩ := Int.gcd_dvd_right T W
  have e1 : T.tdiv (Int.gcd T W) = a := by
    have : (Int.gcd T W : Int) * a = T := ha.symm
    calc T.tdiv (Int.gcd T W) = ((Int.gcd T W : Int) * a).tdiv (Int.gcd T W) := by rw [this]
      _ = a := Int.mul_tdiv_cancel_left _ (by omega)
  have e2 : W.tdiv (Int.gcd T W) = b := by
    have : (Int.gcd T W : Int) * b = W := hb.symm
    calc W.tdiv (Int.gcd T W) = ((Int.gcd T W : Int) * b).tdiv (Int.gcd T W) := by rw [this]
      _ = b := Int.mul_tdiv_cancel_left _ (by omega)
  rw [e1, e2]
  refine Int.le_of_mul_le_mul_left ?_ (show 0 < (Int.gcd T W : Int) by omega)
  have q1 : (Int.gcd T W : Int) * (a * d) = T * d := by rw [← Int.mul_assoc, ← ha]
  have q2 : (Int.gcd T W : Int) * (v * b) = v * W := by rw [← Int.mul_assoc, Int.mul_comm _ v, Int.mul_assoc, ← hb]
  rw [q1, q2]; exact h
theorem rat_ge {T W v d : Int} (hT : 0 ≤ T) (hW : 0 < W) (h : v * W ≤ T * d) : v * W.tdiv (Int.gcd T W) ≤ T.tdiv (Int.gcd T W) * d := by
  have hg := gcd_pos1 hT (show 1 ≤ W by omega)
  obtain ⟨a, ha⟩ := Int.gcd_dvd_left T W
  obtain ⟨b, hb⟩ := Int.gcd_dvd_right T W
  have e1 : T.tdiv (Int.gcd T W) = a := by
    have : (Int.gcd T W : Int) * a = T := ha.symm
    calc T.tdiv (Int.gcd T W) = ((Int.gcd T W : Int) * a).tdiv (Int.gcd T W) := by rw [this]
      _ = a := Int.mul_tdiv_cancel_left _ (by omega)
  have e2 : W.tdiv (Int.gcd T W) = b := by
    have : (Int.gcd T W : Int) * b = W := hb.symm
    calc W.tdiv (Int.gcd T W) = ((Int.gcd T W : Int) * b).tdiv (Int.gcd T W) := by rw [this]
      _ = b := Int.mul_tdiv_cancel_left _ (by omega)
  rw [e1, e2]
  refine Int.le_of_mul_le_mul_left ?_ (show 0 < (Int.gcd T W : Int) by omega)
  have q1 : (Int.gcd T W : Int) * (a * d) = T * d := by rw [← Int.mul_assoc, ← ha]
  have q2 : (Int.gcd T W : Int) * (v * b) = v * W := by rw [← Int.mul_assoc, Int.mul_comm _ v, Int.mul_assoc, ← hb]
  rw [q1, q2]; exact h
/-- A plan that meets the demand has at least as many bars as prices say. -/
theorem plan_bound {p : Prob} {y : Int → Int} (hy : ∀ i, 0 ≤ i → i < p.m → 0 ≤ y i) {l : Int} {len : Int → Int} {pt : Int → Int → Int} {cnt : Int → Int} (hM : MeetsP p l len pt cnt) (hl : 0 ≤ l) : sumTo (fun k => p.D k * y k) p.m.toNat ≤ sumTo cnt l.toNat * WC p y := by
  have hp := hM.s.ok
  have h := parts_weak hp hy (W := WC p y) (q := 1) (u := l.toNat) (x := cnt) (f := fun i k => min (pt i k) (p.D k)) (D := p.D) (fun j j0 j1 => by have := (hM.s.all j j0 (by omega)).2; omega) (fun j j0 j1 => ?_) (fun k k0 k1 => ?_)
  · omega
  · have hf := (hM.s.all j j0 (by omega)).1
    exact wc_top hp (fun i i0 i1 => by have := hf.all i i0 i1; have := dem_nn hp i0 i1; omega) (used_min hf p.D fun i i0 i1 => (dem_nn hp i0 i1).1)
  · have h1 := hM.all k k0 k1
    have := min_sum (n := l.toNat) (a := fun i => pt i k) (c := cnt) (D := p.D k) (dem_nn hp k0 k1).1 (fun i a0 a1 => ((hM.s.all i a0 (by omega)).1.all k k0 k1).1) (fun i a0 a1 => (hM.s.all i a0 (by omega)).2.1) h1
    omega
/-- The last round's prices. -/
theorem clast_wc {p : Prob} {s : So} (h : CLast p s) : WC p s.Y ≤ s.den := by
  obtain ⟨na, a, worth, h1, h2⟩ := h
  rcases h1 with ⟨_, _, _, h1⟩ | ⟨_, _, _, _, h1, _⟩
  · omega
  · omega
theorem MOk.own {p : Prob} {u : Int} {ml : Int → Int} {mf : Int → Int → Int} {s : So} (h : MOk p u ml mf s) (hc : WC p s.Y ≤ s.den) : s.val * s.den = s.val * WC p s.Y := by
  have h1 := h.bound (y := s.Y) fun i i0 i1 => (h.Y i i0 i1).1
  rw [h.bY] at h1
  have := Int.mul_le_mul_of_nonneg_left hc h.v.1
  omega
theorem MOk.prc {p : Prob} {u : Int} {ml : Int → Int} {mf : Int → Int → Int} {s : So} (h : MOk p u ml mf s) : PrcL p s.m s.Y := ⟨h.pats.1, h.m, fun k k0 k1 => h.Y k k0 k1⟩
theorem Tot_sum' (p : Prob) (y : Int → Int) : Tot p.D y p.m.toNat = sumTo (fun k => p.D k * y k) p.m.toNat := Tot_sum _ _ _
/-- ColumnBound: a bound of prices, a plan, the value. -/
theorem bound_law {p : Prob} {n num den : Int} {y : Int → Int} (h : BoundR p n y num den 0) : 1 ≤ den ∧ 0 ≤ num ∧ (∀ {l : Int} {len : Int → Int} {pt : Int → Int → Int} {cnt : Int → Int}, 0 ≤ l → MeetsP p l len pt cnt → num ≤ sumTo cnt l.toNat * den) ∧
    ∀ {u : Int} {ml : Int → Int} {mf : Int → Int → Int} {s : So}, MOk p u ml mf s → num * s.den ≤ s.val * den := by
  rcases h with ⟨_, _, _, h⟩ | ⟨⟨hp, hn, hy⟩, hw, rfl, rfl, _⟩ | ⟨⟨hp, hn, hy⟩, hw, rfl, rfl, _⟩
  · omega
  · refine ⟨by omega, by omega, fun {l len pt cnt} hl hM => ?_, fun {u ml mf s} hs => by have := hs.v.1; omega⟩
    have := sumTo_nonneg (f := cnt) (n := l.toNat) (fun i i0 i1 => by have := (hM.s.all i i0 (by omega)).2; omega)
    omega
  · have hwb := WC_bd hp hy
    have ht := (tot_bd hp hy p.m (by have := hp.m1; omega) (by omega)).1
    have hy0 : ∀ i, 0 ≤ i → i < p.m → 0 ≤ y i := fun i i0 i1 => (hy i i0 i1).1
    have hd := bound_rat (B := Tot p.D y p.m.toNat) ht (show 0 < WC p y by omega) (by
      have := Int.mul_le_mul_of_nonneg_left (show 1 ≤ WC p y by omega) ht; omega)
    refine ⟨hd.1, Int.tdiv_nonneg ht (by have := gcd_pos1 ht (show 1 ≤ WC p y by omega); omega), fun {l len pt cnt} hl hM => (bound_rat ht (by omega) ?_).2, fun {u ml mf s} hs => rat_le ht (by omega) ?_⟩
    · rw [Tot_sum']; exact plan_bound hy0 hM hl
    · rw [Tot_sum']; exact hs.bound hy0
/-- The bound of the own prices is the value. -/
theorem bound_own {p : Prob} {u : Int} {ml : Int → Int} {mf : Int → Int → Int} {s : So} (hs : MOk p u ml mf s) (hc : WC p s.Y ≤ s.den) {num den e : Int} (h : BoundR p s.m s.Y num den e) : e = 0 ∧ num * s.den = s.val * den ∧ 0 ≤ num ∧ num ≤ 1073741824 ∧ 0 ≤ den ∧ den ≤ 1073741824 := by
  have hpr := hs.prc
  have ho := hs.own hc
  have hv := hs.v; have hd := hs.d1; have hd2 := hs.d2
  rcases h with ⟨h, _⟩ | ⟨_, hw, rfl, rfl, he⟩ | ⟨⟨hp, hn, hy⟩, hw, rfl, rfl, he⟩
  · exact absurd hpr h
  · refine ⟨he, ?_, by omega, by omega, by omega, by omega⟩
    rw [hw, Int.mul_zero] at ho
    rcases Int.mul_eq_zero.1 ho with h1 | h1
    · omega
    · omega
  · have hwb := WC_bd hp hy
    have ht := (tot_bd hp hy p.m (by have := hp.m1; omega) (by omega)).1
    have e : Tot p.D s.Y p.m.toNat = s.val := by rw [Tot_sum']; exact hs.bY
    rw [e] at ht ⊢
    have hg := gcd_pos1 ht (show 1 ≤ WC p s.Y by omega)
    have q1 := tdiv_abs (a := s.val) (d := (Int.gcd s.val (WC p s.Y) : Int)) (A := 1073741824) hg (by omega)
    have q2 := tdiv_abs (a := WC p s.Y) (d := (Int.gcd s.val (WC p s.Y) : Int)) (A := 1073741824) hg (by omega)
    have q3 := Int.tdiv_nonneg (a := s.val) (b := (Int.gcd s.val (WC p s.Y) : Int)) ht (by omega)
    have q4 := Int.tdiv_nonneg (a := WC p s.Y) (b := (Int.gcd s.val (WC p s.Y) : Int)) (by omega) (by omega)
    refine ⟨he, ?_, q3, q1.2, q4, q2.2⟩
    have h1 := rat_le (d := s.den) (v := s.val) ht (show 0 < WC p s.Y by omega) (by omega)
    have h2 := rat_ge (d := s.den) (v := s.val) ht (show 0 < WC p s.Y by omega) (by omega)
    omega
theorem KT_boundM {t : Its} {cap M : Int} (h : t.Ok cap) (hM : ∀ i, 0 ≤ i → i < t.n → t.V i ≤ M) (hM0 : 0 ≤ M) : ∀ k : Nat, (k : Int) ≤ t.n → ∀ c, 0 ≤ c → 0 ≤ KT t k c ∧ KT t k c ≤ c * M
  | 0, _, c, hc => ⟨Int.le_refl _, Int.mul_nonneg hc hM0⟩
  | k + 1, hk, c, hc => by
    have he := h.all (t.n - 1 - k) (by omega) (by omega)
    unfold Its.each eachI at he
    exact R_bound he.1 he.2.2.1 (hM _ (by omega) (by omega)) (fun c c0 => KT_boundM h hM hM0 k (by omega) c c0) _ c hc
theorem WC_bdM {p : Prob} {y : Int → Int} {M : Int} (hp : p.Ok) (hy : Priced p y) (hM0 : 0 ≤ M) (hM : ∀ i, 0 ≤ i → i < p.m → y i ≤ M) : 0 ≤ WC p y ∧ WC p y ≤ 2100 * M := by
  have h1 := hp.s1; have h2 := hp.s2; have h3 := hp.k1; have h4 := hp.k2; have h5 := hp.m1
  have := KT_boundM (its_ok hp hy) (M := M) (fun i i0 i1 => hM i i0 i1) hM0 p.m.toNat (by show _ ≤ p.m; omega) (p.stock + p.kerf) (by omega)
  have e : WC p y = KT (itsOf p y) p.m.toNat (p.stock + p.kerf) := by
    unfold WC KI; congr 2; show p.m - 0 = p.m; omega
  rw [e]
  have := Int.mul_le_mul_of_nonneg_right (show p.stock + p.kerf ≤ 2100 by omega) hM0
  omega
/-- Small numbers in a bound of small prices; few problems. -/
theorem bound_rng {p : Prob} {n num den e : Int} {y : Int → Int} (hf : Few28 p) (hpr : PrcL p n y) (hM : ∀ i, 0 ≤ i → i < p.m → y i ≤ 1000) (h : BoundR p n y num den e) : e = 0 ∧ 0 ≤ num ∧ num ≤ 750000 ∧ 0 ≤ den ∧ den ≤ 2100000 := by
  obtain ⟨hp, hn, hy⟩ := id hpr
  have hm := hp.m1; have hmd := hp.d
  rcases h with ⟨h, _⟩ | ⟨_, _, rfl, rfl, he⟩ | ⟨_, hw, rfl, rfl, he⟩
  · exact absurd hpr h
  · exact ⟨he, by omega, by omega, by omega, by omega⟩
  · have hwb := WC_bdM hp hy (M := 1000) (by omega) hM
    have ht := (tot_bd hp hy p.m (by omega) (by omega)).1
    have ht2 := (Tot_bound (D := p.D) (y := y) (m := p.m) (A := 30000) (by omega) (fun k k0 k1 => by
      have h1 := (hf.2.2 hp).1 k k0 (by omega); have h2 := dem_nn hp k0 k1; have h3 := hy k k0 k1; have h4 := hM k k0 k1
      have := mul_rng (A := 30) (B := 1000) h2.1 h1 h3.1 h4; omega) p.m.toNat (by omega)).2
    have hg := gcd_pos1 ht (show 1 ≤ WC p y by omega)
    have h25 := hf.1
    have q1 := tdiv_abs (a := Tot p.D y p.m.toNat) (d := (Int.gcd (Tot p.D y p.m.toNat) (WC p y) : Int)) (A := 750000) hg (by omega)
    have q2 := tdiv_abs (a := WC p y) (d := (Int.gcd (Tot p.D y p.m.toNat) (WC p y) : Int)) (A := 2100000) hg (by omega)
    exact ⟨he, Int.tdiv_nonneg ht (by omega), q1.2, Int.tdiv_nonneg (by omega) (by omega), q2.2⟩
theorem ColR.okS {p : Prob} {u e : Int} {ml : Int → Int} {mf : Int → Int → Int} {s : So} (hu : 0 ≤ u) (h : ColR p u ml mf s e) (he : e = 0) : MOk p u ml mf s ∧ WC p s.Y ≤ s.den := by
  rcases h with ⟨_, _, _, h⟩ | ⟨_, h, _⟩ | ⟨_, _, _, h1, h2⟩
  · omega
  · exact absurd he h
  · exact ⟨h1.ok hu, clast_wc h2⟩
/-! One more of a demand -/
def moreP (p : Prob) (k : Int) : Prob := ⟨p.m, p.L, p.d, upd p.D k (p.D k + 1), p.stock, p.kerf⟩
theorem more_D (p : Prob) (k i : Int) : (moreP p k).D i = if i = k then p.D k + 1 else p.D i := by show upd p.D k (p.D k + 1) i = _; unfold upd; rfl
theorem more_low {p : Prob} {k : Int} (k0 : 0 ≤ k) (k1 : k < p.m) {u u' : Int} {ml ml' : Int → Int} {mf mf' : Int → Int → Int} {s s' : So} (hs : MOk p u ml mf s) (hc : WC p s.Y ≤ s.den) (hs' : MOk (moreP p k) u' ml' mf' s') : s.val * s'.den ≤ s'.val * s.den := by
  have hp := hs.pats.1
  have hp' := hs'.pats.1
  have hu' := hs'.u0
  have h := parts_weak hp (y := s.Y) (fun i i0 i1 => (hs.Y i i0 i1).1) (W := s.den) (q := s'.den) (u := u'.toNat) (x := s'.X) (f := fun j i => min (mf' j i) (p.D i)) (D := p.D) (fun j j0 j1 => (hs'.X j j0 (by omega)).1) (fun j j0 j1 => ?_) (fun i i0 i1 => ?_)
  · rw [hs.bY, hs'.cX] at h; exact h
  · refine Int.le_trans (wc_top hp (fun i i0 i1 => ?_) ?_) hc
    · have := ((prop_used (hs'.pats.2 j j0 (by omega))).1 i i0 i1).1; have := dem_nn hp i0 i1; omega
    · have hf := (hs'.pats.2 j j0 (by omega)).1
      have hm := hp.m1; have hk := hp.k1
      refine Int.le_trans (sumTo_le fun i h0 h1 => ?_) hf.used
      have := (hf.all i h0 (by show i < p.m; omega)).1
      have h2 := dem_nn hp h0 (show i < p.m by omega)
      exact Int.mul_le_mul_of_nonneg_right (show min (mf' j i) (p.D i) ≤ mf' j i by omega) (show 0 ≤ p.L i + p.kerf by omega)
  · have hr := hs'.rows i i0 i1
    rw [more_D] at hr
    have hnn : ∀ j, 0 ≤ j → j < (u'.toNat : Int) → 0 ≤ mf' j i ∧ mf' j i ≤ (moreP p k).D i := fun j j0 j1 => (prop_used (hs'.pats.2 j j0 (by omega))).1 i i0 i1
    have hX : ∀ j, 0 ≤ j → j < (u'.toNat : Int) → 0 ≤ s'.X j := fun j j0 j1 => (hs'.X j j0 (by omega)).1
    by_cases e : i = k
    · subst e
      rw [if_pos rfl] at hr
      have hD := (dem_nn hp i0 i1).1
      -- (D + 1) min (a, D) is at least D a, as a is at most D + 1
      have key : sumTo (fun j => mf' j i * s'.X j * p.D i) u'.toNat ≤ sumTo (fun j => min (mf' j i) (p.D i) * s'.X j * (p.D i + 1)) u'.toNat := sumTo_le fun j j0 j1 => by
        obtain ⟨a0, a1⟩ := hnn j j0 j1
        rw [more_D, if_pos rfl] at a1
        have hx := hX j j0 j1
        have h1 : mf' j i * p.D i ≤ min (mf' j i) (p.D i) * (p.D i + 1) := by
          rcases Int.lt_or_le (p.D i) (mf' j i) with h2 | h2
          · obtain e2 : mf' j i = p.D i + 1 := by omega
            rw [e2, show min (p.D i + 1) (p.D i) = p.D i by omega, Int.mul_comm]; exact Int.le_refl _
          · rw [show min (mf' j i) (p.D i) = mf' j i by omega]
            exact Int.mul_le_mul_of_nonneg_left (by omega) a0
        have := Int.mul_le_mul_of_nonneg_right h1 hx
        grind
      rw [sumTo_mul (fun j => mf' j i * s'.X j), sumTo_mul (fun j => min (mf' j i) (p.D i) * s'.X j)] at key
      have h3 := Int.mul_le_mul_of_nonneg_right hr hD
      refine Int.le_of_mul_le_mul_right (a := p.D i + 1) ?_ (by omega)
      refine Int.le_trans ?_ key
      refine Int.le_trans (Int.le_of_eq ?_) h3
      grind
    · rw [if_neg e] at hr
      refine Int.le_trans hr (Int.le_of_eq (sumTo_congr fun j j0 j1 => ?_))
      have := (hnn j j0 j1).2
      rw [more_D, if_neg e] at this
      rw [show min (mf' j i) (p.D i) = mf' j i by omega]
theorem more_high {p : Prob} {k : Int} (k0 : 0 ≤ k) (k1 : k < p.m) {u u' : Int} {ml ml' : Int → Int} {mf mf' : Int → Int → Int} {s s' : So} (hs : MOk p u ml mf s) (hs' : MOk (moreP p k) u' ml' mf' s') (hc' : WC (moreP p k) s'.Y ≤ s'.den) : s'.val * s.den ≤ (s.val + s.den) * s'.den := by
  have hp := hs.pats.1
  have hp' := hs'.pats.1
  have hu := hs.u0
  have hm := hp.m1; have hk := hp.k1
  have hD' : ∀ i, p.D i ≤ (moreP p k).D i := fun i => by rw [more_D]; split <;> (try subst_vars) <;> omega
  have h := parts_weak hp (y := s'.Y) (fun i i0 i1 => (hs'.Y i i0 i1).1) (W := s'.den) (q := s.den) (u := u.toNat) (x := s.X) (f := mf) (D := p.D) (fun j j0 j1 => (hs.X j j0 (by omega)).1) (fun j j0 j1 => ?_) hs.rows
  · rw [hs.cX] at h
    have hone : s'.Y k ≤ s'.den := by
      obtain ⟨u1, hu1⟩ : ∃ u1 : Int → Int, ∀ i, u1 i = if i = k then 1 else 0 := ⟨_, fun _ => rfl⟩
      have hsum : ∀ f : Int → Int, sumTo (fun i => u1 i * f i) p.m.toNat = f k := fun f => by
        rw [sumTo_split (s := k) k0 (by omega), hu1, if_pos rfl]
        have : sumTo (fun j => if j = k then 0 else u1 j * f j) p.m.toNat = sumTo (fun _ => 0) p.m.toNat := sumTo_congr fun j _ _ => by
          by_cases e : j = k
          · rw [if_pos e]
          · rw [if_neg e, hu1, if_neg e]; omega
        rw [this, sumTo_zero]; omega
      have h1 := wc_top hp' (y := s'.Y) (x := u1) (fun i i0 i1 => ?_) ?_
      · have e : sumTo (fun i => u1 i * s'.Y i) (moreP p k).m.toNat = s'.Y k := hsum _
        omega
      · rw [more_D, hu1]
        have := dem_nn hp i0 i1
        have := dem_nn hp k0 k1
        split <;> omega
      · have e : Used (moreP p k) u1 (moreP p k).m.toNat = p.L k + p.kerf := hsum (fun i => p.L i + p.kerf)
        rw [e]
        have := dem_nn hp k0 k1
        show p.L k + p.kerf ≤ p.stock + p.kerf
        omega
    have e : s'.val = sumTo (fun i => p.D i * s'.Y i) p.m.toNat + s'.Y k := by
      rw [← hs'.bY]
      show sumTo (fun i => (moreP p k).D i * s'.Y i) p.m.toNat = _
      rw [sumTo_split (f := fun i => (moreP p k).D i * s'.Y i) (s := k) k0 (by omega), sumTo_split (f := fun i => p.D i * s'.Y i) (s := k) k0 (by omega), more_D, if_pos rfl]
      have : sumTo (fun j => if j = k then 0 else (moreP p k).D j * s'.Y j) p.m.toNat = sumTo (fun j => if j = k then 0 else p.D j * s'.Y j) p.m.toNat := sumTo_congr fun j _ _ => by
        by_cases e : j = k
        · rw [if_pos e, if_pos e]
        · rw [if_neg e, if_neg e, more_D, if_neg e]
      rw [this, Int.add_mul]; omega
    have hm2 := Int.mul_le_mul_of_nonneg_right hone (show 0 ≤ s.den by have := hs.d1; omega)
    rw [e, Int.add_mul, Int.add_mul]
    rw [Int.mul_comm s.den]
    omega
  · obtain ⟨h1, h2⟩ := prop_used (hs.pats.2 j j0 (by omega))
    refine Int.le_trans (wc_top hp' (fun i i0 i1 => ⟨(h1 i i0 i1).1, Int.le_trans (h1 i i0 i1).2 (hD' i)⟩) ?_) hc'
    exact h2

end Go.Proofs.YtopmifmfecfaaaaGreat
