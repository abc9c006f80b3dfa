/- What the reference is held against. -/
import Derived.Test.YtopmifmfecfaaaaGreatGv
import Derived.Test.YtopmifmfecfaaaaGreatK7
import Derived.Test.YtopmifmfecfaaaaGreatFq
namespace Go.Proofs.YtopmifmfecfaaaaGreat
open Go Go.RowKit Go.Proofs.Gw
set_option linter.unusedVariables false

theorem cl_11 : calledT Tryz.prog 11 = true := by kernel_rfl
theorem cl_127 : calledT Tryz.prog 127 = true := by kernel_rfl
theorem cl_128 : calledT Tryz.prog 128 = true := by kernel_rfl
theorem cl_88 : calledT Tryz.prog 88 = true := by kernel_rfl
theorem cl_89 : calledT Tryz.prog 89 = true := by kernel_rfl
theorem el_137 : elemT Tryz.prog 137 = some (.agg #[.int .i64 0, .int .i64 0, .int .i64 0], 3, 24) := by kernel_rfl
theorem el_35 : elemT Tryz.prog 35 = some (.agg #[.slice none 0 0, .slice none 0 0, .int .i64 0, .int .i64 0], 4, 64) := by kernel_rfl
theorem fd_137_0 : fieldT Tryz.prog 137 0 = some 0 := by kernel_rfl
theorem fd_137_1 : fieldT Tryz.prog 137 1 = some 1 := by kernel_rfl
theorem fd_137_2 : fieldT Tryz.prog 137 2 = some 2 := by kernel_rfl
theorem sl_136 : sliceT Tryz.prog 136 = some (137, 3) := by kernel_rfl
theorem st_137 : structT Tryz.prog 137 = some 3 := by kernel_rfl
/-- Whatever stays within the demands and fits on a bar is worth at most WC. -/
theorem wc_top {p : Prob} (hp : p.Ok) {y x : Int → Int} (hx : ∀ i, 0 ≤ i → i < p.m → 0 ≤ x i ∧ x i ≤ p.D i) (hu : Used p x p.m.toNat ≤ p.stock + p.kerf) : sumTo (fun i => x i * y i) p.m.toNat ≤ WC p y := by
  have hm := hp.m1; have hk := hp.k1
  refine KI_top (t := itsOf p y) (by show 0 ≤ p.m; omega) (fun i i0 i1 => ?_) hx hu
  have := hp.all i i0 i1
  unfold Prob.each at this
  show 1 ≤ p.L i + p.kerf
  omega
theorem dem_nn {p : Prob} (hp : p.Ok) {i : Int} (i0 : 0 ≤ i) (i1 : i < p.m) : 0 ≤ p.D i ∧ p.D i ≤ 1000 ∧ 1 ≤ p.L i ∧ p.L i ≤ p.stock := by
  have h2 := hp.all i i0 i1
  unfold Prob.each at h2; omega
/-- Patterns in parts: whatever makes the demand by them has at least as many bars as prices say. x: how often, q: the parts. -/
theorem parts_weak {p : Prob} (hp : p.Ok) {y : Int → Int} (hy : ∀ i, 0 ≤ i → i < p.m → 0 ≤ y i) {W q : Int} {u : Nat} {x : Int → Int} {f : Int → Int → Int} {D : Int → Int} (hx : ∀ j, 0 ≤ j → j < (u : Int) → 0 ≤ x j) (hW : ∀ j, 0 ≤ j → j < (u : Int) → sumTo (fun k => f j k * y k) p.m.toNat ≤ W)
    (hb : ∀ k, 0 ≤ k → k < p.m → D k * q ≤ sumTo (fun j => f j k * x j) u) : sumTo (fun k => D k * y k) p.m.toNat * q ≤ sumTo x u * W := by
  have hm := hp.m1
  have e1 : sumTo (fun k => D k * y k) p.m.toNat * q = sumTo (fun k => D k * q * y k) p.m.toNat := by
    rw [← sumTo_mul]; exact sumTo_congr fun k _ _ => by grind
  have e2 : sumTo (fun k => D k * q * y k) p.m.toNat ≤ sumTo (fun k => sumTo (fun j => f j k * x j) u * y k) p.m.toNat := sumTo_le fun k k0 k1 => Int.mul_le_mul_of_nonneg_right (hb k k0 (by omega)) (hy k k0 (by omega))
  have e3 : sumTo (fun k => sumTo (fun j => f j k * x j) u * y k) p.m.toNat = sumTo (fun k => sumTo (fun j => f j k * x j * y k) u) p.m.toNat := sumTo_congr fun k _ _ => (sumTo_mul _ _ _).symm
  have e4 : sumTo (fun k => sumTo (fun j => f j k * x j * y k) u) p.m.toNat = sumTo (fun j => sumTo (fun k => f j k * x j * y k) p.m.toNat) u := sumTo_comm (fun j k => f j k * x j * y k) u p.m.toNat
  have e5 : sumTo (fun j => sumTo (fun k => f j k * x j * y k) p.m.toNat) u ≤ sumTo (fun j => x j * W) u := sumTo_le fun j j0 j1 => by
    have : sumTo (fun k => f j k * x j * y k) p.m.toNat = sumTo (fun k => f j k * y k) p.m.toNat * x j := by
      rw [← sumTo_mul]; exact sumTo_congr fun k _ _ => by grind
    rw [this, Int.mul_comm (x j)]
    exact Int.mul_le_mul_of_nonneg_right (hW j j0 j1) (hx j j0 j1)
  rw [sumTo_mul] at e5
  omega
/-- What a solution of the linear program of patterns is known by. -/
structure MOk (p : Prob) (u : Int) (ml : Int → Int) (mf : Int → Int → Int) (s : So) : Prop where
  pats : PropL p u ml mf
  u0 : 0 ≤ u
  n : s.n = u
  m : s.m = p.m
  d1 : 1 ≤ s.den
  d2 : s.den ≤ 1073741824
  v : 0 ≤ s.val ∧ s.val ≤ 1073741824
  X : ∀ j, 0 ≤ j → j < u → 0 ≤ s.X j ∧ s.X j ≤ 1073741824
  Y : ∀ i, 0 ≤ i → i < p.m → 0 ≤ s.Y i ∧ s.Y i ≤ 1073741824
  rows : ∀ k, 0 ≤ k → k < p.m → p.D k * s.den ≤ sumTo (fun j => mf j k * s.X j) u.toNat
  cols : ∀ j, 0 ≤ j → j < u → sumTo (fun k => mf j k * s.Y k) p.m.toNat ≤ s.den
  cX : sumTo s.X u.toNat = s.val
  bY : sumTo (fun k => p.D k * s.Y k) p.m.toNat = s.val
theorem MSolveR.ok {p : Prob} {u : Int} {ml : Int → Int} {mf : Int → Int → Int} {s : So} (hu : 0 ≤ u) (h : MSolveR p u ml mf s 0) : MOk p u ml mf s := by
  rcases h with ⟨_, _, h⟩ | ⟨_, _, _, h⟩ | ⟨_, _, _, _, _, _, h⟩ | ⟨h1, h2, h3, h4, h5, h6, h7⟩ | ⟨h1, h2, h3, h4, h5⟩
  · omega
  · omega
  · omega
  · have hm := h1.1.m1; have hd := h1.1.d
    subst h6; subst h4
    have z : ∀ f : Int → Int, sumTo (fun k => f k * 0) p.m.toNat = 0 := fun f => by rw [sumTo_mul, Int.mul_zero]
    refine ⟨h1, by omega, rfl, rfl, by show (1 : Int) ≤ 1; decide, by show (1 : Int) ≤ 1073741824; decide, ⟨Int.le_refl _, by show (0 : Int) ≤ 1073741824; decide⟩, fun j a b => by omega, fun i _ _ => ⟨Int.le_refl _, by show (0 : Int) ≤ 1073741824; decide⟩, fun k k0 k1 => ?_, fun j a b => by omega, rfl, z p.D⟩
    have := h5 k k0 (by omega)
    show p.D k * 1 ≤ 0
    omega
  · have hm := h1.1.m1
    have hc := SolveR.chk (p := lpOf p u mf) (by show 0 ≤ p.m; omega) h5 rfl
    have hv : s.val = sumTo s.X u.toNat := by
      have := hc.cX
      rw [← this]; exact sumTo_congr fun k _ _ => by show 1 * s.X k = _; omega
    refine ⟨h1, by omega, hc.n, hc.m, hc.d1, hc.d2, ⟨?_, hc.v.2⟩, hc.X, hc.Y, fun k k0 k1 => ?_, fun j j0 j1 => ?_, hv.symm, hc.bY⟩
    · rw [hv]; exact sumTo_nonneg fun j j0 j1 => (hc.X j j0 (by show j < u; omega)).1
    · exact hc.rows k k0 k1
    · have := hc.cols j j0 j1
      have e : (lpOf p u mf).c j * s.den = s.den := by show 1 * s.den = _; omega
      rw [e] at this; exact this
theorem prop_used {p : Prob} {n : Int} {a : Int → Int} (h : ProperP p n a) : (∀ i, 0 ≤ i → i < p.m → 0 ≤ a i ∧ a i ≤ p.D i) ∧ Used p a p.m.toNat ≤ p.stock + p.kerf :=
  ⟨fun i i0 i1 => ⟨(h.1.all i i0 i1).1, h.2 i i0 (by rw [h.1.eq]; exact i1)⟩, h.1.used⟩
/-- Prices bound the value. -/
theorem MOk.bound {p : Prob} {u : Int} {ml : Int → Int} {mf : Int → Int → Int} {s : So} (h : MOk p u ml mf s) {y : Int → Int} (hy : ∀ i, 0 ≤ i → i < p.m → 0 ≤ y i) : sumTo (fun k => p.D k * y k) p.m.toNat * s.den ≤ s.val * WC p y := by
  have hp := h.pats.1
  have hu := h.u0
  rw [← h.cX]
  refine parts_weak hp hy (fun j j0 j1 => (h.X j j0 (by omega)).1) (fun j j0 j1 => ?_) h.rows
  obtain ⟨h1, h2⟩ := prop_used (h.pats.2 j j0 (by omega))
  exact wc_top hp h1 h2
/-- The last round's prices. -/
theorem clast_wc {p : Prob} {s : So} (h : CLast p s) : WC p s.Y ≤ s.den := by
  obtain ⟨na, a, worth, h1, h2⟩ := h
  rcases h1 with ⟨_, _, _, h1⟩ | ⟨_, _, _, _, h1, _⟩
  · omega
  · omega
theorem MOk.own {p : Prob} {u : Int} {ml : Int → Int} {mf : Int → Int → Int} {s : So} (h : MOk p u ml mf s) (hc : WC p s.Y ≤ s.den) : s.val * s.den = s.val * WC p s.Y := by
  have h1 := h.bound (y := s.Y) fun i i0 i1 => (h.Y i i0 i1).1
  rw [h.bY] at h1
  have := Int.mul_le_mul_of_nonneg_left hc h.v.1
  omega
theorem MOk.prc {p : Prob} {u : Int} {ml : Int → Int} {mf : Int → Int → Int} {s : So} (h : MOk p u ml mf s) : PrcL p s.m s.Y := ⟨h.pats.1, h.m, fun k k0 k1 => h.Y k k0 k1⟩
theorem ColR.okS {p : Prob} {u e : Int} {ml : Int → Int} {mf : Int → Int → Int} {s : So} (hu : 0 ≤ u) (h : ColR p u ml mf s e) (he : e = 0) : MOk p u ml mf s ∧ WC p s.Y ≤ s.den := by
  rcases h with ⟨_, _, _, h⟩ | ⟨_, h, _⟩ | ⟨_, _, _, h1, h2⟩
  · omega
  · exact absurd he h
  · exact ⟨h1.ok hu, clast_wc h2⟩
/-! One more of a demand -/
def moreP (p : Prob) (k : Int) : Prob := ⟨p.m, p.L, p.d, upd p.D k (p.D k + 1), p.stock, p.kerf⟩
def yMx : Int → Int := fun k => [2, 1].getD k.toNat 0
def xMx : Int → Int := fun k => [2, 0].getD k.toNat 0
theorem one_sum {x : Int → Int} {n : Nat} {k : Int} (k0 : 0 ≤ k) (k1 : k < (n : Int)) (h : ∀ j, 0 ≤ j → j < (n : Int) → j ≠ k → x j = 0) : sumTo x n = x k := by
  rw [sumTo_split (s := k) k0 k1]
  have : sumTo (fun j => if j = k then 0 else x j) n = sumTo (fun _ => 0) n := sumTo_congr fun j j0 j1 => by
    by_cases e : j = k
    · rw [if_pos e]
    · rw [if_neg e, h j j0 j1 e]
  rw [this, sumTo_zero]; omega
/-- The pattern of one length is proper. -/
theorem one_prop {p : Prob} (hp : p.Ok) {i : Int} (i0 : 0 ≤ i) (i1 : i < p.m) : ProperP p p.m (oneP p i) ∧ (0 < p.D i → 1 ≤ oneP p i i) := by
  have hm := hp.m1; have hk := hp.k1; have hs := hp.s1
  have hd := dem_nn hp i0 i1
  have hq := quo_facts (a := p.stock + p.kerf) (b := p.L i + p.kerf) (by omega) (by omega)
  have h0 : 0 ≤ (p.stock + p.kerf).tdiv (p.L i + p.kerf) := Int.tdiv_nonneg (by omega) (by omega)
  have h1 : 1 ≤ (p.stock + p.kerf).tdiv (p.L i + p.kerf) := by
    rw [Int.tdiv_eq_ediv_of_nonneg (by omega)]
    exact (Int.le_ediv_iff_mul_le (by omega)).2 (by omega)
  have hv : oneP p i i = min (p.D i) ((p.stock + p.kerf).tdiv (p.L i + p.kerf)) := if_pos rfl
  have hz : ∀ j, j ≠ i → oneP p i j = 0 := fun j e => if_neg e
  refine ⟨⟨⟨hp, rfl, fun j j0 j1 => ?_, ?_⟩, fun j j0 j1 => ?_⟩, fun h => by rw [hv]; omega⟩
  · by_cases e : j = i
    · rw [e, hv]; omega
    · rw [hz j e]; omega
  · have e : Used p (oneP p i) p.m.toNat = oneP p i i * (p.L i + p.kerf) := one_sum (x := fun j => oneP p i j * (p.L j + p.kerf)) i0 (by omega) fun j _ _ e => by show oneP p i j * _ = 0; rw [hz j e, Int.zero_mul]
    rw [e, hv]
    have h2 := Int.mul_le_mul_of_nonneg_right (show min (p.D i) ((p.stock + p.kerf).tdiv (p.L i + p.kerf)) ≤ (p.stock + p.kerf).tdiv (p.L i + p.kerf) by omega) (show 0 ≤ p.L i + p.kerf by omega)
    have h3 : (p.stock + p.kerf).tdiv (p.L i + p.kerf) * (p.L i + p.kerf) ≤ p.stock + p.kerf := by
      rw [Int.tdiv_eq_ediv_of_nonneg (by omega)]
      exact Int.ediv_mul_le _ (by omega)
    omega
  · by_cases e : j = i
    · rw [e, hv]; omega
    · rw [hz j e]; exact (dem_nn hp j0 j1).1
theorem st_inv {p : Prob} (hp : p.Ok) : ∀ k : Nat, (k : Int) ≤ p.m → (∀ j, 0 ≤ j → j < stN p k → ProperP p (stL p k j) (stG p k j)) ∧ ∀ i, 0 ≤ i → i < (k : Int) → 0 < p.D i → ∃ j, 0 ≤ j ∧ j < stN p k ∧ 1 ≤ stG p k j i
  | 0, _ => ⟨fun j a b => by simp only [stN] at b; omega, fun i a b => by omega⟩
  | k + 1, hk => by
    obtain ⟨h1, h2⟩ := st_inv hp k (by omega)
    have hr := (stN_rng p k).1
    simp only [stN, stL, stG]
    by_cases e : 0 < p.D k
    · rw [if_pos e, if_pos e, if_pos e]
      obtain ⟨q1, q2⟩ := one_prop hp (i := (k : Int)) (by omega) (by omega)
      constructor
      · intro j j0 j1
        by_cases e2 : j < stN p k
        · rw [gsn_lt e2, gsn_lt e2]; exact h1 j j0 e2
        · rw [gsn_at e2, gsn_at e2]; exact q1
      · intro i i0 i1 hi
        by_cases e2 : i = k
        · subst e2
          refine ⟨stN p k, hr, by omega, ?_⟩
          rw [gsn_at (by omega)]; exact q2 e
        · obtain ⟨j, j0, j1, hj⟩ := h2 i i0 (by omega) hi
          refine ⟨j, j0, by omega, ?_⟩
          rw [gsn_lt j1]; exact hj
    · rw [if_neg e, if_neg e, if_neg e]
      refine ⟨h1, fun i i0 i1 hi => h2 i i0 ?_ hi⟩
      by_cases e2 : i = k
      · subst e2; omega
      · omega
/-- The dearest pattern is proper. -/
theorem price_prop {p : Prob} {n na worth e : Int} {y a : Int → Int} (h : PriceR p n y na a worth e) (he : e = 0) : ProperP p na a := by
  rcases h with ⟨_, _, _, h⟩ | ⟨⟨hp, hn, hy⟩, rfl, rfl, ⟨x, hx⟩, _, _⟩
  · omega
  · have hm := hp.m1; have hk := hp.k1; have hs := hp.s1
    have hq := aC_eq (by omega) hx
    have hu := (hx.worth (by omega) (by show 0 ≤ p.m; omega)).1
    have hb : ∀ i, 0 ≤ i → i < p.m → 0 ≤ aC p y i ∧ aC p y i ≤ p.D i := fun i i0 i1 => by
      have h1 := hx i i0 i1
      rw [← hq i i0 i1]; exact ⟨h1.1, h1.2.1⟩
    refine ⟨⟨hp, rfl, fun i i0 i1 => ?_, ?_⟩, fun i i0 i1 => (hb i i0 i1).2⟩
    · have := hb i i0 i1; have := dem_nn hp i0 i1; omega
    · refine Int.le_trans (Int.le_of_eq ?_) hu
      show sumTo (fun i => aC p y i * (p.L i + p.kerf)) p.m.toNat = sumTo (fun i => x i * (p.L i + p.kerf)) p.m.toNat
      exact sumTo_congr fun i i0 i1 => by rw [hq i i0 (by omega)]
theorem crn_inv {p : Prob} (hok : p.Ok) {u e : Int} {ml : Int → Int} {mf : Int → Int → Int} (h : CRn p u ml mf e) : e = 0 ∧ PropL p u ml mf ∧ 0 ≤ u ∧ ∀ i, 0 ≤ i → i < p.m → 0 < p.D i → ∃ j, 0 ≤ j ∧ j < u ∧ 1 ≤ mf j i := by
  have hm := hok.m1
  induction h with
  | start h =>
    rcases h with ⟨h, _⟩ | ⟨_, h1, h2, h3, h4⟩
    · exact absurd hok h
    · subst h1; subst h2; subst h3
      obtain ⟨q1, q2⟩ := st_inv hok p.m.toNat (by omega)
      exact ⟨h4, ⟨hok, q1⟩, (stN_rng p _).1, fun i i0 i1 => q2 i i0 (by omega)⟩
  | go h hs hp hn ih =>
    rename_i u1 na1 w1 f1 ml1 mf1 a1 s1
    obtain ⟨_, h2, h3, h4⟩ := ih
    have hpr := (hs.ok h3).prc
    have hf : f1 = 0 := by
      rcases hp with ⟨q, _⟩ | ⟨_, _, _, _, _, q⟩
      · exact absurd hpr q
      · exact q
    refine ⟨hf, ⟨hok, fun k k0 k1 => ?_⟩, by omega, fun i i0 i1 hi => ?_⟩
    · by_cases e : k < u1
      · rw [gsn_lt e, gsn_lt e]; exact h2.2 k k0 e
      · rw [gsn_at e, gsn_at e]; exact price_prop hp hf
    · obtain ⟨j, j0, j1, hj⟩ := h4 i i0 i1 hi
      exact ⟨j, j0, by omega, by rw [gsn_lt j1]; exact hj⟩
theorem lp_ok {p : Prob} {u : Int} {ml : Int → Int} {mf : Int → Int → Int} (h : PropL p u ml mf) (hu : 1 ≤ u) (hu2 : u ≤ 60) (hm : p.m ≤ 16) : LOk (lpOf p u mf) := by
  have hp := h.1
  refine ⟨hu, hu2, hm, hp.d, fun j _ _ => by show (0 : Int) ≤ 1 ∧ (1 : Int) ≤ 1000000; omega, fun i i0 i1 => ?_, fun i i0 i1 => ⟨rfl, fun j j0 j1 => ?_⟩⟩
  · have := dem_nn hp i0 i1
    show -1000000 ≤ p.D i ∧ p.D i ≤ 1000000; omega
  · have h1 := (prop_used (h.2 j j0 j1)).1 i i0 i1
    have := dem_nn hp i0 i1
    show -1000000 ≤ mf j i ∧ mf j i ≤ 1000000; omega
theorem ms_errs {p : Prob} {u e : Int} {ml : Int → Int} {mf : Int → Int → Int} {s : So} (hP : PropL p u ml mf) (hu : 0 ≤ u) (hc : ∀ i, 0 ≤ i → i < p.m → 0 < p.D i → ∃ j, 0 ≤ j ∧ j < u ∧ 1 ≤ mf j i) (h : MSolveR p u ml mf s e) : e = 0 ∨ e = 2 ∨ e = 9 := by
  have hp := hP.1
  have hm := hp.m1; have hd := hp.d
  rcases h with ⟨h, _⟩ | ⟨_, _, _, h⟩ | ⟨_, _, _, h1, ⟨k, k0, k1, hk⟩, _, _⟩ | ⟨_, _, _, _, _, _, h⟩ | ⟨_, h2, h3, h4, h5⟩
  · exact absurd hP h
  · omega
  · obtain ⟨j, j0, j1, _⟩ := hc k k0 (by omega) hk; omega
  · omega
  · rcases h5.errs (lp_ok hP h4 h3 h2) (by show 0 ≤ p.m; omega) with h | h | h | h
    · omega
    · omega
    · omega
    · exfalso
      obtain ⟨y, hy⟩ := h5.none (by show 0 ≤ p.m; omega) h
      have := ref_none hy (show 0 ≤ u by omega) (show 0 ≤ p.m by omega) (x := fun _ => 1000) (a := 1) (by omega) (fun j _ _ => by omega) fun i i0 i1 => by
        have hd := dem_nn hp i0 i1
        have hnn : ∀ j, 0 ≤ j → j < (u.toNat : Int) → 0 ≤ mf j i * 1000 := fun j j0 j1 => by
          have := ((prop_used (hP.2 j j0 (by omega))).1 i i0 i1).1; omega
        show p.D i * 1 ≤ sumTo (fun j => mf j i * 1000) u.toNat
        rcases Int.lt_or_le 0 (p.D i) with e | e
        · obtain ⟨j, j0, j1, hj⟩ := hc i i0 i1 e
          have := sumTo_one (f := fun j => mf j i * 1000) (n := u.toNat) j0 (by omega) hnn
          have h9 : mf j i * 1000 ≤ sumTo (fun j => mf j i * 1000) u.toNat := this
          omega
        · have := sumTo_nonneg hnn; omega
      omega
theorem ColR.errs {p : Prob} {u e : Int} {ml : Int → Int} {mf : Int → Int → Int} {s : So} (hok : p.Ok) (h : ColR p u ml mf s e) : (e ≠ 0 ∧ u = 0 ∧ (e = 9 ∨ e = 2)) ∨ e = 0 := by
  rcases h with ⟨h, _⟩ | ⟨_, he, hu, _, u1, ml1, mf1, e1, h1, h2⟩ | ⟨_, h, _⟩
  · exact absurd hok h
  · obtain ⟨q1, q2, q3, q4⟩ := crn_inv hok h1
    rcases h2 with ⟨h2, _⟩ | ⟨_, s1, h2⟩
    · exact absurd q1 h2
    · have := ms_errs q2 q3 q4 h2
      exact .inl ⟨he, hu, by omega⟩
  · exact .inr h
theorem ColR.few {p : Prob} {u e : Int} {ml : Int → Int} {mf : Int → Int → Int} {s : So} (h : ColR p u ml mf s e) (he : e = 0) : u ≤ 60 := by
  rcases h with ⟨_, _, _, h⟩ | ⟨_, h, _⟩ | ⟨_, _, _, h1, _⟩
  · omega
  · exact absurd he h
  · exact h1.few.2.1
theorem rk_round {T : Int → Int} {s y c k v : Int} (hT : 0 ≤ T c) (hks : k * s ≤ c) (h : (k = 0 ∧ v = 0) ∨ (1 ≤ k ∧ v = R T s y (k - 1).toNat c)) : max v (k * y + T (c - k * s)) = R T s y k.toNat c := by
  rcases h with ⟨rfl, rfl⟩ | ⟨h1, rfl⟩
  · rw [Int.zero_mul, Int.zero_mul, Int.sub_zero, Int.zero_add]; show max 0 (T c) = T c; omega
  · rw [R_at T s y h1 hks]; omega
theorem rk_end {T : Int → Int} {s y c k v M : Int} (hs : 1 ≤ s) (c0 : 0 ≤ c) (M0 : 0 ≤ M) (hk : k ≤ M + 1) (hend : ¬ (k ≤ M ∧ k * s ≤ c)) (h : (k = 0 ∧ v = 0) ∨ (1 ≤ k ∧ v = R T s y (k - 1).toNat c)) : v = R T s y M.toNat c := by
  rcases h with ⟨rfl, _⟩ | ⟨h1, rfl⟩
  · exfalso; rw [Int.zero_mul] at hend; omega
  · by_cases e : k ≤ M
    · have h2 : ¬ k * s ≤ c := fun hh => hend ⟨e, hh⟩
      exact (R_stop T s y c (k - 1).toNat (by rw [show ((k - 1).toNat : Int) + 1 = k by omega]; omega) (by omega) M.toNat (by omega)).symm
    · rw [show k - 1 = M by omega]
/-- Which number of pieces the reference takes. -/
def SkI (t : Its) (i c k n : Int) : Prop := (n = 0 ∧ ∀ j, 0 ≤ j → j < k → KI t (i + 1) (c - j * t.S i) + j * t.V i ≠ KI t i c) ∨
  (0 ≤ n ∧ n < k ∧ n ≤ t.M i ∧ n * t.S i ≤ c ∧ KI t (i + 1) (c - n * t.S i) + n * t.V i = KI t i c ∧ ∀ j, n < j → j < k → KI t (i + 1) (c - j * t.S i) + j * t.V i ≠ KI t i c)
theorem SkI.start (t : Its) (i c : Int) : SkI t i c 0 0 := .inl ⟨rfl, fun j a b => by omega⟩
theorem SkI.yes {t : Its} {i c k : Int} (k0 : 0 ≤ k) (hM : k ≤ t.M i) (hks : k * t.S i ≤ c) (he : k * t.V i + KI t (i + 1) (c - k * t.S i) = KI t i c) : SkI t i c (k + 1) k := .inr ⟨k0, by omega, hM, hks, by omega, fun j a b => by omega⟩
theorem SkI.no {t : Its} {i c k n : Int} (h : SkI t i c k n) (he : k * t.V i + KI t (i + 1) (c - k * t.S i) ≠ KI t i c) : SkI t i c (k + 1) n := by
  rcases h with ⟨h1, h2⟩ | ⟨h1, h2, h3, h4, h5, h6⟩
  · refine .inl ⟨h1, fun j a b => ?_⟩
    by_cases e : j = k
    · subst e; omega
    · exact h2 j a (by omega)
  · refine .inr ⟨h1, by omega, h3, h4, h5, fun j a b => ?_⟩
    by_cases e : j = k
    · subst e; omega
    · exact h6 j a (by omega)
theorem SkI.fin {t : Its} {cap i c k n : Int} (hk : t.Ok cap) (i0 : 0 ≤ i) (i1 : i < t.n) (c0 : 0 ≤ c) (h : SkI t i c k n) (hend : ¬ (k ≤ t.M i ∧ k * t.S i ≤ c)) :
    0 ≤ n ∧ n ≤ t.M i ∧ n * t.S i ≤ c ∧ KI t (i + 1) (c - n * t.S i) + n * t.V i = KI t i c ∧ ∀ j, n < j → j ≤ t.M i → j * t.S i ≤ c → KI t (i + 1) (c - j * t.S i) + j * t.V i ≠ KI t i c := by
  have he := hk.all i i0 i1
  unfold Its.each eachI at he
  have hlt : ∀ j, j ≤ t.M i → j * t.S i ≤ c → j < k := fun j j1 j2 => by
    rcases Int.lt_or_le j k with h1 | h1
    · exact h1
    · exfalso
      have := Int.mul_le_mul_of_nonneg_right h1 (show 0 ≤ t.S i by omega)
      exact hend ⟨by omega, by omega⟩
  rcases h with ⟨h1, h2⟩ | ⟨h1, h2, h3, h4, h5, h6⟩
  · obtain ⟨j, j0, j1, j2, j3⟩ := KI_ex hk i0 i1 c0
    exact absurd j3 (h2 j j0 (hlt j j1 j2))
  · exact ⟨h1, h3, h4, h5, fun j a b d => h6 j a (hlt j b d)⟩

set_option maxRecDepth 20000 in
theorem c_rkvalid {vI : Value} {t : Its} {cap : Int} (w0 : World) (hI : Row w0 vI 3 t.n (dcells t.S t.V t.M)) :
    Calls Tryz.prog 127 [vI, .int .i64 cap].toArray w0 fun e w => ∃ v, e = .returned v ∧ v = B (t.Ok cap) ∧ Sat w0 w [] := by
  have hn := hI.slh.n0; have hn1 := hI.slh.n1
  refine zenG Tryz.func127 Tryz.ntmps127 fun w hS => ?_
  refine zsr ?_
  refine zlv xas ?_
  refine zlt <| zsq <| zsr ?_
  refine zlv xas ?_
  refine zlt <| zbk <| zlp (fun mm M w => ∃ (i : Int), mm = ((t.n - i).toNat) ∧ (0 ≤ i) ∧ (i ≤ t.n) ∧ (∀ k, 0 ≤ k → k < i → t.each k) ∧ M = [(0, vI), (1, .int .i64 cap), (5, .int .i64 i)] ∧ Sat w0 w []) ⟨0, rfl, (by omega), (by omega), ?_, rfl, hS⟩ ?_
  ·
   intro k h0 h1; omega
  clear hS w
  rintro mm M w ⟨i, rfl, h0, h1, hall, rfl, hS⟩
  refine zsq <| zsr ?_
  refine zs2 ?_
  refine zlv (xln sl_136 hI.slh) ?_
  refine zlv xlss ?_
  refine zlt ?_
  refine zcif ?_ ?_ <;> intro hc
  ·
   refine zsk <| ztn <| zsq <| zbk <| zsr ?_
   refine zs2 ?_
   refine zlv (xix (kk := 3 * i) sl_136 hI.slh) ?_
   refine zlv (xlw (cs := [.int .i64 (t.S i), .int .i64 (t.V i), .int .i64 (t.M i)]) st_137 (hI.below hS.below) (dcells_at (k := 3 * i) (i := i) t.S t.V t.M (by omega))) ?_
   refine zla (xal (cs := [_, _, _]) el_137 hS) ?_; rintro _ w ⟨g1, rfl, hS⟩
   replace hS := hS.n1
   refine zle (xsw 0 st_137 hS) ?_; clear hS; rintro w hS
   replace hS := hS.n1
   refine zlz ?_
   refine zlv (xfb 0 fd_137_0) ?_
   refine zlv (xlb 0 pl_3 hS) ?_
   refine zs2 ?_
   refine zlb 20 ?_ ?_ <;> intro hc
   ·
    iterate 3 refine zlo ?_
    refine zs2 ?_
    iterate 3 refine zlo ?_
    refine zs2 ?_
    iterate 3 refine zlo ?_
    refine zs2 ?_
    iterate 3 refine zlo ?_
    refine zs2 ?_
    iterate 3 refine zlo ?_
    refine zlv xpt ?_
    refine zlt <| zct <| zsr ?_
    refine zlv xas ?_
    refine zlt <| zrt <| zbr <| ztr <| ztr <| zbr <| ztr <| zf1 ⟨_, rfl, ?_⟩
    exact ⟨false_B (by intro hok; have h2 := hok.n; have h3 := hok.c0; have h4 := hok.c1; first | omega | (have hev := hok.all i h0 (by omega); unfold Its.each eachI at hev; omega)), hS.nl⟩
   refine zlv (xfb 0 fd_137_0) ?_
   refine zlv (xlb 0 pl_3 hS) ?_
   refine zs3 ?_
   refine zlb 25 ?_ ?_ <;> intro hc
   ·
    iterate 3 refine zlo ?_
    refine zs2 ?_
    iterate 3 refine zlo ?_
    refine zs2 ?_
    iterate 3 refine zlo ?_
    refine zs2 ?_
    iterate 3 refine zlo ?_
    refine zlv xpt ?_
    refine zlt <| zct <| zsr ?_
    refine zlv xas ?_
    refine zlt <| zrt <| zbr <| ztr <| ztr <| zbr <| ztr <| zf1 ⟨_, rfl, ?_⟩
    exact ⟨false_B (by intro hok; have h2 := hok.n; have h3 := hok.c0; have h4 := hok.c1; first | omega | (have hev := hok.all i h0 (by omega); unfold Its.each eachI at hev; omega)), hS.nl⟩
   refine zlv (xfb 1 fd_137_1) ?_
   refine zlv (xlb 0 pl_3 hS) ?_
   refine zs3 ?_
   refine zlb 30 ?_ ?_ <;> intro hc
   ·
    iterate 3 refine zlo ?_
    refine zs2 ?_
    iterate 3 refine zlo ?_
    refine zs2 ?_
    iterate 3 refine zlo ?_
    refine zlv xpt ?_
    refine zlt <| zct <| zsr ?_
    refine zlv xas ?_
    refine zlt <| zrt <| zbr <| ztr <| ztr <| zbr <| ztr <| zf1 ⟨_, rfl, ?_⟩
    exact ⟨false_B (by intro hok; have h2 := hok.n; have h3 := hok.c0; have h4 := hok.c1; first | omega | (have hev := hok.all i h0 (by omega); unfold Its.each eachI at hev; omega)), hS.nl⟩
   refine zlv (xfb 1 fd_137_1) ?_
   refine zlv (xlb 0 pl_3 hS) ?_
   refine zs3 ?_
   refine zlb 35 ?_ ?_ <;> intro hc
   ·
    iterate 3 refine zlo ?_
    refine zs2 ?_
    iterate 3 refine zlo ?_
    refine zlv xpt ?_
    refine zlt <| zct <| zsr ?_
    refine zlv xas ?_
    refine zlt <| zrt <| zbr <| ztr <| ztr <| zbr <| ztr <| zf1 ⟨_, rfl, ?_⟩
    exact ⟨false_B (by intro hok; have h2 := hok.n; have h3 := hok.c0; have h4 := hok.c1; first | omega | (have hev := hok.all i h0 (by omega); unfold Its.each eachI at hev; omega)), hS.nl⟩
   refine zlv (xfb 2 fd_137_2) ?_
   refine zlv (xlb 0 pl_3 hS) ?_
   refine zs3 ?_
   refine zlb 40 ?_ ?_ <;> intro hc
   ·
    iterate 3 refine zlo ?_
    refine zlv xpt ?_
    refine zlt <| zct <| zsr ?_
    refine zlv xas ?_
    refine zlt <| zrt <| zbr <| ztr <| ztr <| zbr <| ztr <| zf1 ⟨_, rfl, ?_⟩
    exact ⟨false_B (by intro hok; have h2 := hok.n; have h3 := hok.c0; have h4 := hok.c1; first | omega | (have hev := hok.all i h0 (by omega); unfold Its.each eachI at hev; omega)), hS.nl⟩
   refine zlv (xfb 2 fd_137_2) ?_
   refine zlv (xlb 0 pl_3 hS) ?_
   refine zs2 ?_
   refine zlt ?_
   refine zcif ?_ ?_ <;> intro hc
   ·
    refine zsr ?_
    refine zlv xas ?_
    refine zlt <| zrt <| zbr <| ztr <| ztr <| zbr <| ztr <| zf1 ⟨_, rfl, ?_⟩
    exact ⟨false_B (by intro hok; have h2 := hok.n; have h3 := hok.c0; have h4 := hok.c1; first | omega | (have hev := hok.all i h0 (by omega); unfold Its.each eachI at hev; omega)), hS.nl⟩
   refine zsk <| zbn <| ztn <| zrg ?_
   refine zlv xmv ?_
   refine zlv (xadd (r := i + 1)) ?_
   refine zlv xas ?_
   refine zln <| zlq ⟨i + 1, rfl, (by omega), (by omega), ?_, rfl, hS.nl⟩
   ·
    intro k h0' h1'; rcases Int.lt_or_eq_of_le (show k ≤ i by omega) with hk | hk; exact hall k h0' hk; rw [hk]; unfold Its.each eachI; omega
  refine zxt <| ztx <| ztx <| zbh <| ztn <| zsr ?_
  refine zlv xmv ?_
  refine zlv (xln sl_136 hI.slh) ?_
  refine zs2 ?_
  refine zlb 48 ?_ ?_ <;> intro hc
  ·
   refine zs4 ?_
   refine zlb 52 ?_ ?_ <;> intro hc
   ·
    refine zs4 ?_
    refine zlt <| zrt <| zf1 ⟨_, rfl, ?_⟩
    exact ⟨B_congr (by exact ⟨fun hx => ⟨by omega, by omega, by omega, fun k k0 k1 => hall k k0 (by omega)⟩, fun hok => hok.c1⟩), hS⟩
   iterate 2 refine zlo ?_
   refine zs2 ?_
   refine zlt <| zrt <| zf1 ⟨_, rfl, ?_⟩
   exact ⟨false_B (by intro hok; have h2 := hok.n; have h3 := hok.c0; have h4 := hok.c1; first | omega | (have hev := hok.all i h0 (by omega); unfold Its.each eachI at hev; omega)), hS⟩
  iterate 2 refine zlo ?_
  refine zs2 ?_
  iterate 2 refine zlo ?_
  refine zs2 ?_
  refine zlt <| zrt <| zf1 ⟨_, rfl, ?_⟩
  exact ⟨false_B (by intro hok; have h2 := hok.n; have h3 := hok.c0; have h4 := hok.c1; first | omega | (have hev := hok.all i h0 (by omega); unfold Its.each eachI at hev; omega)), hS⟩

set_option maxHeartbeats 4000000 in
set_option maxRecDepth 20000 in
theorem c_rbehind {vI : Value} {t : Its} {cap : Int} (w0 : World) (hI : Row w0 vI 3 t.n (dcells t.S t.V t.M)) (hk : t.Ok cap) :
    Calls Tryz.prog 128 [vI, .int .i64 cap].toArray w0 fun e w => ∃ v, e = .returned v ∧ ∃ r vv, v = r ∧ Slh r (t.n + 1) ∧ Sat w0 w [.own r 1 22 (t.n + 1) vv, .sem (Frame.rows 3 (t.n + 1) vv (fun _ => cap + 1) (KI t))] := by
  have hn := hI.slh.n0
  have hk1 := hk.n; have hk2 := hk.c0; have hk3 := hk.c1
  refine zenG Tryz.func128 Tryz.ntmps128 fun w hS => ?_
  refine zsr ?_
  refine zlv xas ?_
  refine zlz ?_
  refine zlv xmv ?_
  refine zlv (xln sl_136 hI.slh) ?_
  refine zlv (xadd (r := t.n + 1)) ?_
  refine zla (xmk sl_27 el_22 hS) ?_; rintro v1 w ⟨hS, hv1⟩
  replace hS := hS.n1
  refine zlv xas ?_
  refine zlz ?_
  refine zs2 ?_
  refine zlv (xln sl_136 hI.slh) ?_
  refine zlv xmv ?_
  refine zlv (xadd (r := cap + 1)) ?_
  refine zla (xmk sl_22 el_3 hS) ?_; rintro v2 w ⟨hS, hv2⟩
  replace hS := hS.n2
  refine zlv (xix (kk := t.n) sl_27 hv1) ?_
  refine zle (xso 0 pl_22 hS rfl (hv := hv2.one)) ?_; clear hS; rintro w hS
  replace hS := hS.n2
  refine zlt <| zsq <| zsr ?_
  refine zlv xmv ?_
  refine zlv (xln sl_136 hI.slh) ?_
  refine zlv (xsub (r := t.n - 1)) ?_
  refine zlv xas ?_
  refine zlt <| zbk ?_
  replace hS := hS.addrows 3 (fun _ => Value.slice none 0 0) (fun _ => cap + 1) (fun j => KI t (t.n - j))
  replace hS := hS.n3
  have hrs0 := fun k (k0 : 0 ≤ k) (k1 : k < 0) => hS.slhIn 2 rfl k0 k1
  replace hS := Sat.merge2 (l1 := [_]) (l2 := []) (l3 := []) hS (by omega)
  have hrs1 := fun k (k0 : 0 ≤ k) (k1 : k < 1) => hS.slhIn 1 rfl k0 k1
  replace hS := hS.n2
  replace hS := hS.rerows (vv' := gsn (fun _ => Value.slice none 0 0) 0 v2) (ln' := fun _ => cap + 1) (f' := fun j => KI t (t.n - j)) 1 rfl (fun k k0 k1 => by
    by_cases e : k < 0
    · exact ⟨rfl, gsn_lt e, fun j _ _ => by rw [gsn_lt e]⟩
    · have hk9 : k = 0 := by omega
      refine ⟨rfl, gsn_at e, fun j j0 j1 => ?_⟩
      rw [gsn_at e, hk9]; rw [show t.n - (0 : Int) = t.n by omega, KI_end])
  replace hS := hS.n2
  have hrs1x := fun k (k0 : 0 ≤ k) (k1 : k < 1) => hS.slhIn 1 rfl k0 k1
  refine zlp (fun mm M w => ∃ (nC : Int) (wv : Int → Value) (rv : Int → Value) (i : Int), mm = ((i + 1).toNat) ∧ (-1 ≤ i) ∧ (i ≤ t.n - 1) ∧ (nC = t.n - i) ∧ (∀ j, 0 ≤ j → j < nC → wv (t.n - j) = rv j) ∧ M = [(0, vI), (1, .int .i64 cap), (4, .slice none 0 0), (5, v1), (6, .int .i64 i)] ∧ Sat w0 w [.own v1 1 22 (t.n + 1) wv, .sem (Frame.rows 3 nC rv (fun _ => cap + 1) (fun j => KI t (t.n - j)))]) ⟨1, upd (fun _ => .slice none 0 0) t.n (v2), gsn (fun _ => Value.slice none 0 0) 0 v2, (t.n - 1), rfl, (by omega), (by omega), (by omega), ?_, rfl, hS⟩ ?_
  ·
   intro j j0 j1; obtain rfl : j = 0 := by omega
   rw [show t.n - (0 : Int) = t.n by omega, gu_self, gsn_at (by omega)]
  clear hS w
  rintro mm M w ⟨nC, wv, rv, i, rfl, i0, i1, hnC, hwv, rfl, hS⟩
  have hrs2 := fun k (k0 : 0 ≤ k) (k1 : k < nC) => hS.slhIn 1 rfl k0 k1
  refine zsq <| zsr ?_
  refine zs2 ?_
  refine zlt ?_
  refine zcif ?_ ?_ <;> intro hc
  ·
   refine zsk <| ztn <| zsq <| zbk <| zsr ?_
   refine zs2 ?_
   refine zlv (xix (kk := 3 * i) sl_136 hI.slh) ?_
   refine zlv (xlw (cs := [.int .i64 (t.S i), .int .i64 (t.V i), .int .i64 (t.M i)]) st_137 (hI.below hS.below) (dcells_at (k := 3 * i) (i := i) t.S t.V t.M (by omega))) ?_
   have hev := hk.all i (by omega) (by omega); unfold Its.each eachI at hev
   refine zla (xal (cs := [_, _, _]) el_137 hS) ?_; rintro _ w ⟨g1, rfl, hS⟩
   replace hS := hS.n3
   refine zle (xsw 2 st_137 hS) ?_; clear hS; rintro w hS
   replace hS := hS.n3
   refine zlz ?_
   refine zs3 ?_
   refine zlv (xadd (r := cap + 1)) ?_
   refine zla (xmk sl_22 el_3 hS) ?_; rintro v3 w ⟨hS, hv3⟩
   replace hS := hS.n4
   refine zlv (xix (kk := i) sl_27 hv1) ?_
   refine zle (xso 0 pl_22 hS rfl (hv := hv3.one)) ?_; clear hS; rintro w hS
   replace hS := hS.n4
   refine zlz ?_
   refine zlv xas ?_
   refine zlt <| zbk <| zlp (fun mm M w => ∃ (c : Int) (g : Int → Int), mm = ((cap + 1 - c).toNat) ∧ (0 ≤ c) ∧ (c ≤ cap + 1) ∧ (∀ q, 0 ≤ q → q < c → g q = R (KI t (i + 1)) (t.S i) (t.V i) (t.M i).toNat q) ∧ (∀ q, c ≤ q → q ≤ cap → g q = 0) ∧ M = [(0, vI), (1, .int .i64 cap), (4, .slice none 0 0), (5, v1), (6, .int .i64 i), (7, .pointer (some ⟨g1, 0, none⟩)), (8, .int .i64 c)] ∧ Sat w0 w [.own v1 1 22 (t.n + 1) (upd wv i (v3)), .sem (Frame.rows 3 nC rv (fun _ => cap + 1) (fun j => KI t (t.n - j))), .blk g1 [.int .i64 (t.S i), .int .i64 (t.V i), .int .i64 (t.M i)], .own v3 1 3 (cap + 1) (ints g)]) ⟨0, (fun _ => 0), rfl, (by omega), (by omega), ?_, ?_, rfl, hS⟩ ?_
   ·
    intro q q0 q1; omega
   ·
    intro q q0 q1; rfl
   clear hS w
   rintro mm M w ⟨c, g, rfl, c0, c1, hg, hgz, rfl, hS⟩
   refine zsq <| zsr ?_
   refine zs3 ?_
   refine zlt ?_
   refine zcif ?_ ?_ <;> intro hc
   ·
    refine zsk <| ztn <| zsq <| zbk <| zsr ?_
    refine zlv xas ?_
    refine zlt <| zbk <| zlp (fun mm M w => ∃ (k : Int) (g3 : Int → Int), mm = ((t.M i + 1 - k).toNat) ∧ (0 ≤ k) ∧ (k ≤ t.M i + 1) ∧ (∀ q, q ≠ c → g3 q = g q) ∧ ((k = 0 ∧ g3 c = 0) ∨ (1 ≤ k ∧ g3 c = R (KI t (i + 1)) (t.S i) (t.V i) (k - 1).toNat c)) ∧ M = [(0, vI), (1, .int .i64 cap), (4, .slice none 0 0), (5, v1), (6, .int .i64 i), (7, .pointer (some ⟨g1, 0, none⟩)), (8, .int .i64 c), (9, .int .i64 k)] ∧ Sat w0 w [.own v1 1 22 (t.n + 1) (upd wv i (v3)), .sem (Frame.rows 3 nC rv (fun _ => cap + 1) (fun j => KI t (t.n - j))), .blk g1 [.int .i64 (t.S i), .int .i64 (t.V i), .int .i64 (t.M i)], .own v3 1 3 (cap + 1) (ints g3)]) ⟨0, g, rfl, (by omega), (by omega), ?_, ?_, rfl, hS⟩ ?_
    ·
     intro q _; rfl
    ·
     exact .inl ⟨rfl, hgz c (by omega) (by omega)⟩
    clear hS w
    rintro mm M w ⟨k, g3, rfl, k0, k1, hgl, hgc, rfl, hS⟩
    refine zsq <| zsr ?_
    refine zlv xmv ?_
    refine zlv (xfb 2 fd_137_2) ?_
    refine zlv (xlb 2 pl_3 hS) ?_
    have hkS := mul_rng (a := k) (b := t.S i) (A := 1001) (B := 4000) (by omega) (by omega) (by omega) (by omega)
    refine zs2 ?_
    refine zlb 47 ?_ ?_ <;> intro hc
    ·
     refine zlv xmv ?_
     refine zlv (xfb 0 fd_137_0) ?_
     refine zlv (xlb 2 pl_3 hS) ?_
     refine zlv (xmul (r := (k * (t.S i))) (e := rfl)) ?_
     refine zs3 ?_
     refine zlt ?_
     refine zcif ?_ ?_ <;> intro hc
     ·
      refine zsk <| ztn <| zsq <| zbk ?_
      refine zdst [0, 1, 2, 3] [0, 1, 2] 32 mx_ hS ?_; clear hS; intro w hS
      refine zdv 0 (fun _ => xmv) ?_
      have hkV := mul_rng (a := k) (b := t.V i) (A := 1001) (B := 1073741824) (by omega) (by omega) (by omega) (by omega)
      have hkb := KI_bound hk (i := i + 1) (by omega) (by omega) (c := c - k * t.S i) (by omega)
      have hkc := KI_bound hk (i := i + 1) (by omega) (by omega) (c := c) (by omega)
      have hkd : (fun j => KI t (t.n - j)) (t.n - i - 1) (c - k * t.S i) = KI t (i + 1) (c - k * t.S i) := by show KI t (t.n - (t.n - i - 1)) _ = _; congr 1; omega
      refine zdv 1 (fun _ => xmv) ?_
      refine zdv 2 (fun _ => (xix (kk := i) sl_27 hv1)) ?_
      refine zdla 3 (fun w hS => (xlr (u := v3) pl_22 (hS.rowN 0 rfl) (e := (gu_self _ _ _)))) ?_
      refine zdv 4 (fun _ => xmv) ?_
      refine zdv 5 (fun _ => xmv) ?_
      refine zdv 6 (fun _ => xmv) ?_
      refine zdv 7 (fun _ => (xix (kk := i) sl_27 hv1)) ?_
      refine zdla 8 (fun w hS => (xlr (u := v3) pl_22 (hS.rowN 0 rfl) (e := (gu_self _ _ _)))) ?_
      refine zdv 9 (fun _ => xmv) ?_
      refine zdv 10 (fun _ => (xix (kk := c) sl_22 hv3)) ?_
      refine zdl 11 (fun w hS => (xlr (u := .int .i64 (g3 c)) pl_3 (hS.rowN 3 rfl))) ?_
      refine zdv 12 (fun _ => xmv) ?_
      refine zdv 13 (fun _ => (xfb 1 fd_137_1)) ?_
      refine zdla 14 (fun w hS => (xlb 2 pl_3 hS)) ?_
      refine zdv 15 (fun _ => (xmul (r := (k * (t.V i))) (e := rfl))) ?_
      refine zdv 16 (fun _ => xmv) ?_
      refine zdv 17 (fun _ => xmv) ?_
      refine zdv 18 (fun _ => (xadd (r := i + 1))) ?_
      refine zdv 19 (fun _ => (xix (kk := i + 1) sl_27 hv1)) ?_
      refine zdla 20 (fun w hS => (xlr (u := (rv (t.n - i - 1))) pl_22 (hS.rowN 0 rfl) (e := (by rw [gu_ne (by omega)]; have := hwv (t.n - i - 1) (by omega) (by omega); rwa [show t.n - (t.n - i - 1) = i + 1 by omega] at this)))) ?_
      refine zdv 21 (fun _ => xmv) ?_
      refine zdv 22 (fun _ => xmv) ?_
      refine zdv 23 (fun _ => (xfb 0 fd_137_0)) ?_
      refine zdla 24 (fun w hS => (xlb 2 pl_3 hS)) ?_
      refine zdv 25 (fun _ => (xmul (r := (k * (t.S i))) (e := rfl))) ?_
      refine zdv 26 (fun _ => (xsub (r := c - (k * (t.S i))))) ?_
      refine zdv 27 (fun _ => (xix (kk := c - (k * (t.S i))) sl_22 (hrs2 (t.n - i - 1) (by omega) (by omega)))) ?_
      refine zdla 28 (fun w hS => (xlr (u := .int .i64 ((fun j => KI t (t.n - j)) (t.n - i - 1) (c - (k * (t.S i))))) pl_3 (hS.rowIn (k := t.n - i - 1) 1 rfl (by omega) (by omega)))) ?_
      refine zdv 29 (fun _ => (xadd (r := (k * (t.V i)) + ((fun j => KI t (t.n - j)) (t.n - i - 1) (c - (k * (t.S i))))))) ?_
      refine zdv 30 (fun _ => (xmax (r := (max (g3 c) ((k * (t.V i)) + ((fun j => KI t (t.n - j)) (t.n - i - 1) (c - (k * (t.S i))))))))) ?_
      refine zdv 31 (fun _ => (xix (kk := c) sl_22 hv3)) ?_
      refine zde 32 (xso 3 pl_3 hS (upd_ints _ _ _)) ?_; clear hS; rintro w hS
      replace hS := hS.n4
      refine ⟨⟨fun h => absurd h (by decide), hS.pk [0, 1, 2]⟩, ?_⟩
      refine zdd <| zbn <| ztn <| zrg ?_
      refine zlv xmv ?_
      refine zlv (xadd (r := k + 1)) ?_
      refine zlv xas ?_
      refine zln <| zlq ⟨k + 1, (upd g3 c (max (g3 c) ((k * (t.V i)) + ((fun j => KI t (t.n - j)) (t.n - i - 1) (c - (k * (t.S i))))))), rfl, (by omega), (by omega), ?_, ?_, rfl, hS⟩
      ·
       intro q hq; rw [upd_ne _ _ hq]; exact hgl q hq
      ·
       refine .inr ⟨by omega, ?_⟩
       rw [upd_self, show k + 1 - 1 = k by omega, hkd]; exact rk_round (by omega) (by omega) hgc
     refine zxt <| ztx <| ztx <| zbh <| zbn <| ztn <| zrg ?_
     refine zlv xmv ?_
     refine zlv (xadd (r := c + 1)) ?_
     refine zlv xas ?_
     refine zln <| zlq ⟨c + 1, g3, rfl, (by omega), (by omega), ?_, ?_, rfl, hS⟩
     ·
      intro q q0 q1; by_cases e : q = c
      · rw [e]; exact rk_end (by omega) c0 (by omega) (by omega) (by omega) hgc
      · rw [hgl q e]; exact hg q q0 (by omega)
     ·
      intro q q0 q1; rw [hgl q (by omega)]; exact hgz q (by omega) q1
    iterate 6 refine zlo ?_
    refine zlv xpf ?_
    refine zlt <| zcf <| zxt <| ztx <| ztx <| zbh <| zbn <| ztn <| zrg ?_
    refine zlv xmv ?_
    refine zlv (xadd (r := c + 1)) ?_
    refine zlv xas ?_
    refine zln <| zlq ⟨c + 1, g3, rfl, (by omega), (by omega), ?_, ?_, rfl, hS⟩
    ·
     intro q q0 q1; by_cases e : q = c
     · rw [e]; exact rk_end (by omega) c0 (by omega) (by omega) (by omega) hgc
     · rw [hgl q e]; exact hg q q0 (by omega)
    ·
     intro q q0 q1; rw [hgl q (by omega)]; exact hgz q (by omega) q1
   refine zxt <| ztx <| ztx <| zbh <| zbn <| ztn <| zrg ?_
   refine zlv xmv ?_
   refine zlv (xsub (r := i - 1)) ?_
   refine zlv xas ?_
   refine zln ?_
   replace hS := Sat.merge (l1 := [_]) (l2 := [_]) (l3 := []) hS (by omega)
   have hrs3 := fun k (k0 : 0 ≤ k) (k1 : k < nC + 1) => hS.slhIn 1 rfl k0 k1
   replace hS := hS.n3
   replace hS := hS.rerows (vv' := gsn rv nC v3) (ln' := fun _ => cap + 1) (f' := fun j => KI t (t.n - j)) 1 rfl (fun k k0 k1 => by
     by_cases e : k < nC
     · exact ⟨rfl, gsn_lt e, fun j _ _ => by rw [gsn_lt e]⟩
     · have hk9 : k = nC := by omega
       refine ⟨rfl, gsn_at e, fun j j0 j1 => ?_⟩
       rw [gsn_at e, hk9]; rw [hnC, show t.n - (t.n - i) = i by omega, KI_step t (i := i) (by omega) (by omega)]; exact hg j j0 (by rw [gsn_at e] at j1; omega))
   replace hS := hS.n3
   have hrs3x := fun k (k0 : 0 ≤ k) (k1 : k < nC + 1) => hS.slhIn 1 rfl k0 k1
   refine zlq ⟨nC + 1, upd wv i (v3), gsn rv nC v3, i - 1, rfl, (by omega), (by omega), (by omega), ?_, rfl, hS.pk [0, 1]⟩
   ·
    intro j j0 j1; by_cases e : j = nC
    · rw [e, hnC, show t.n - (t.n - i) = i by omega, gu_self, gsn_at (by omega)]
    · rw [gu_ne (by omega), gsn_lt (by omega)]; exact hwv j j0 (by omega)
  refine zxt <| ztx <| ztx <| zbh <| ztn <| zsr ?_
  refine zs2 ?_
  refine zlt <| zrt <| zf1 ⟨_, rfl, ?_⟩
  obtain rfl : i = -1 := by omega
  obtain rfl : nC = t.n + 1 := by omega
  replace hS := Sat.revrows 1 hS rfl
  replace hS := hS.rerows (vv' := wv) (ln' := fun _ => cap + 1) (f' := KI t) 1 rfl (fun k k0 k1 => ⟨by rw [← hwv _ (by omega) (by omega)]; congr 1; omega, rfl, fun j _ _ => by show KI t (t.n - (t.n + 1 - 1 - k)) j = _; congr 1; omega⟩)
  exact ⟨_, _, rfl, hv1, hS.pk [0, 1]⟩

set_option maxHeartbeats 4000000 in
set_option maxRecDepth 20000 in
theorem c_rksolve {vI : Value} {t : Its} {cap : Int} (w0 : World) (hI : Row w0 vI 3 t.n (dcells t.S t.V t.M)) :
    Calls Tryz.prog 89 [vI, .int .i64 cap].toArray w0 fun e w => ∃ v, e = .returned v ∧ ∃ r n x val e, v = .tuple #[r, .int .i64 val, .int .i64 e] ∧ KSolR t cap n x val e ∧ Slh r n ∧ Sat w0 w [.own r 1 3 n (ints x)] := by
  have hn := hI.slh.n0
  refine zenG Tryz.func89 Tryz.ntmps89 fun w hS => ?_
  refine zsr ?_
  refine zs3 ?_
  refine zlt <| zsq <| zsr ?_
  refine zs2 ?_
  refine zlc (xc0 cl_127) (c_rkvalid (t := t) (cap := cap) w (hI.below hS.below)) ?_; rintro _ w ⟨rfl, hS'⟩
  replace hS := hS.cmp hS'; clear hS'
  refine zlv xnot ?_
  refine zlt ?_
  refine zcif ?_ ?_ <;> intro hc
  ·
   refine zsr ?_
   refine zs3 ?_
   refine zlt <| zrt <| ztr <| zf3 ⟨_, rfl, ?_⟩
   exact ⟨_, 0, fun _ => 0, 0, 1, rfl, .inl ⟨‹¬ t.Ok cap›, rfl, rfl, rfl⟩, slh_nil, (hS.addnil 1 3 (ints fun _ => 0)).pk [0]⟩
  refine zsk <| ztn <| zsr ?_
  refine zlv xmv ?_
  have hk : t.Ok cap := by first | assumption | exact Classical.not_not.1 ‹_›
  refine zlv xmv ?_
  refine zlc (xc0 cl_128) (c_rbehind (t := t) (cap := cap) w (hI.below hS.below) hk) ?_; rintro vlsls1 w ⟨_, wlls1, rfl, hvlsls1, hS'⟩
  replace hS : Sat w0 w [.own vlsls1 1 22 (t.n + 1) wlls1, .sem (Frame.rows 3 (t.n + 1) wlls1 (fun _ => cap + 1) (KI t))] := hS.comp hS'; clear hS'
  have hrlls1 := fun k (k0 : 0 ≤ k) (k1 : k < (t.n + 1)) => hS.slhIn 1 rfl k0 k1
  refine zlv xas ?_
  refine zlz ?_
  refine zlv xas ?_
  refine zlz ?_
  refine zs2 ?_
  refine zlt <| zsq <| zsr ?_
  refine zlv xas ?_
  refine zlt <| zbk ?_
  replace hS := hS.addnil 1 3 (ints (fun _ => 0))
  replace hS := hS.n3
  have hk1 := hk.n; have hk2 := hk.c0; have hk3 := hk.c1
  refine zlp (fun mm M w => ∃ (nx : Int) (c : Int) (i : Int) (wx : Value) (fx : Int → Int), mm = ((t.n - i).toNat) ∧ (0 ≤ i) ∧ (i ≤ t.n) ∧ (nx = i) ∧ (0 ≤ c) ∧ (c ≤ cap) ∧ (c = cap - KU t fx i.toNat) ∧ (KX t cap fx i) ∧ (Slh wx nx) ∧ M = [(0, vI), (1, .int .i64 cap), (4, .slice none 0 0), (5, .int .i64 0), (6, .int .i64 0), (7, vlsls1), (8, wx), (9, .int .i64 c), (10, .int .i64 i)] ∧ Sat w0 w [.own vlsls1 1 22 (t.n + 1) wlls1, .sem (Frame.rows 3 (t.n + 1) wlls1 (fun _ => cap + 1) (KI t)), .own wx 1 3 nx (ints fx)]) ⟨0, cap, 0, (.slice none 0 0), (fun _ => 0), rfl, (by omega), (by omega), (by omega), (by omega), (by omega), ?_, ?_, ?_, rfl, hS⟩ ?_
  ·
   show cap = cap - 0; omega
  ·
   intro k k0 k1; omega
  ·
   exact slh_nil
  clear hS w
  rintro mm M w ⟨nx, c, i, wx, fx, rfl, i0, i1, hnx, c0, c1, hcu, hkx, hwx, rfl, hS⟩
  refine zsq <| zsr ?_
  refine zs2 ?_
  refine zlv (xln sl_136 hI.slh) ?_
  refine zlv xlss ?_
  refine zlt ?_
  refine zcif ?_ ?_ <;> intro hc
  ·
   refine zsk <| ztn <| zsq <| zbk <| zsr ?_
   refine zs2 ?_
   refine zlv (xix (kk := 3 * i) sl_136 hI.slh) ?_
   refine zlv (xlw (cs := [.int .i64 (t.S i), .int .i64 (t.V i), .int .i64 (t.M i)]) st_137 (hI.below hS.below) (dcells_at (k := 3 * i) (i := i) t.S t.V t.M (by omega))) ?_
   have hev := hk.all i i0 (by omega); unfold Its.each eachI at hev
   refine zla (xal (cs := [_, _, _]) el_137 hS) ?_; rintro _ w ⟨g1, rfl, hS⟩
   replace hS := hS.n4
   refine zle (xsw 3 st_137 hS) ?_; clear hS; rintro w hS
   replace hS := hS.n4
   refine zlz ?_
   refine zlv xas ?_
   refine zlt <| zsq <| zsr ?_
   refine zlv xas ?_
   refine zlt <| zbk <| zlp (fun mm M w => ∃ (n : Int) (k : Int), mm = ((t.M i + 1 - k).toNat) ∧ (0 ≤ k) ∧ (k ≤ t.M i + 1) ∧ (SkI t i c k n) ∧ M = [(0, vI), (1, .int .i64 cap), (4, .slice none 0 0), (5, .int .i64 0), (6, .int .i64 0), (7, vlsls1), (8, wx), (9, .int .i64 c), (10, .int .i64 i), (11, .pointer (some ⟨g1, 0, none⟩)), (12, .int .i64 n), (13, .int .i64 k)] ∧ Sat w0 w [.own vlsls1 1 22 (t.n + 1) wlls1, .sem (Frame.rows 3 (t.n + 1) wlls1 (fun _ => cap + 1) (KI t)), .own wx 1 3 nx (ints fx), .blk g1 [.int .i64 (t.S i), .int .i64 (t.V i), .int .i64 (t.M i)]]) ⟨0, 0, rfl, (by omega), (by omega), ?_, rfl, hS⟩ ?_
   ·
    exact SkI.start t i c
   clear hS w
   rintro mm M w ⟨n, k, rfl, k0, k1, hsk, rfl, hS⟩
   refine zsq <| zsr ?_
   refine zlv xmv ?_
   refine zlv (xfb 2 fd_137_2) ?_
   refine zlv (xlb 3 pl_3 hS) ?_
   refine zs2 ?_
   refine zlb 36 ?_ ?_ <;> intro hc
   ·
    refine zlv xmv ?_
    have hkS := mul_rng (a := k) (b := t.S i) (A := 1001) (B := 4000) (by omega) (by omega) (by omega) (by omega)
    refine zlv (xfb 0 fd_137_0) ?_
    refine zlv (xlb 3 pl_3 hS) ?_
    refine zlv (xmul (r := (k * (t.S i))) (e := rfl)) ?_
    refine zs3 ?_
    refine zlt ?_
    refine zcif ?_ ?_ <;> intro hc
    ·
     refine zsk <| ztn <| zsq <| zbk <| zsq ?_
     refine zdst [0, 1, 2, 3] [0, 1, 2, 3] 1000 mx_ hS ?_; clear hS; intro w hS
     refine zdv 0 (fun _ => xmv) ?_
     have hkV := mul_rng (a := k) (b := t.V i) (A := 1001) (B := 1073741824) (by omega) (by omega) (by omega) (by omega)
     have hkb := KI_bound hk (i := i + 1) (by omega) (by omega) (c := c - k * t.S i) (by omega)
     refine zdv 1 (fun _ => (xfb 1 fd_137_1)) ?_
     refine zdla 2 (fun w hS => (xlb 3 pl_3 hS)) ?_
     refine zdv 3 (fun _ => (xmul (r := (k * (t.V i))) (e := rfl))) ?_
     refine zdv 4 (fun _ => xmv) ?_
     refine zdv 5 (fun _ => xmv) ?_
     refine zdv 6 (fun _ => (xadd (r := i + 1))) ?_
     refine zdv 7 (fun _ => (xix (kk := i + 1) sl_27 hvlsls1)) ?_
     refine zdla 8 (fun w hS => (xlr (u := (wlls1 (i + 1))) pl_22 (hS.rowN 0 rfl))) ?_
     refine zdv 9 (fun _ => xmv) ?_
     refine zdv 10 (fun _ => xmv) ?_
     refine zdv 11 (fun _ => (xfb 0 fd_137_0)) ?_
     refine zdla 12 (fun w hS => (xlb 3 pl_3 hS)) ?_
     refine zdv 13 (fun _ => (xmul (r := (k * (t.S i))) (e := rfl))) ?_
     refine zdv 14 (fun _ => (xsub (r := c - (k * (t.S i))))) ?_
     refine zdv 15 (fun _ => (xix (kk := c - (k * (t.S i))) sl_22 (hrlls1 (i + 1) (by omega) (by omega)))) ?_
     refine zdla 16 (fun w hS => (xlr (u := .int .i64 ((KI t) (i + 1) (c - (k * (t.S i))))) pl_3 (hS.rowIn (k := i + 1) 1 rfl (by omega) (by omega)))) ?_
     refine zdv 17 (fun _ => (xadd (r := (k * (t.V i)) + ((KI t) (i + 1) (c - (k * (t.S i))))))) ?_
     refine zdv 18 (fun _ => xmv) ?_
     refine zdv 19 (fun _ => xmv) ?_
     refine zdv 20 (fun _ => (xix (kk := i) sl_27 hvlsls1)) ?_
     refine zdla 21 (fun w hS => (xlr (u := (wlls1 i)) pl_22 (hS.rowN 0 rfl))) ?_
     refine zdv 22 (fun _ => xmv) ?_
     refine zdv 23 (fun _ => (xix (kk := c) sl_22 (hrlls1 i (by omega) (by omega)))) ?_
     refine zdla 24 (fun w hS => (xlr (u := .int .i64 ((KI t) i c)) pl_3 (hS.rowIn (k := i) 1 rfl (by omega) (by omega)))) ?_
     refine zdv 25 (fun _ => xeql) ?_
     refine zdd <| ztn ?_
     refine zcif ?_ ?_ <;> intro hc
     ·
      refine zrg ?_
      refine zs2 ?_
      refine zln <| zbn <| ztn <| zrg ?_
      refine zlv xmv ?_
      refine zlv (xadd (r := k + 1)) ?_
      refine zlv xas ?_
      refine zln <| zlq ⟨k, k + 1, rfl, (by omega), (by omega), ?_, rfl, hS⟩
      ·
       first | exact SkI.yes k0 (by omega) (by omega) (by omega) | exact hsk.no (by omega)
     refine zsk <| zbn <| ztn <| zrg ?_
     refine zlv xmv ?_
     refine zlv (xadd (r := k + 1)) ?_
     refine zlv xas ?_
     refine zln <| zlq ⟨n, k + 1, rfl, (by omega), (by omega), ?_, rfl, hS⟩
     ·
      first | exact SkI.yes k0 (by omega) (by omega) (by omega) | exact hsk.no (by omega)
    refine zxt <| ztx <| ztx <| zbh <| ztn <| zsr ?_
    refine zlv xmv ?_
    have hfn := hsk.fin hk i0 (by omega) (by omega) (by omega)
    have hns := mul_rng (a := n) (b := t.S i) (A := 1000) (B := 4000) (by omega) (by omega) (by omega) (by omega)
    refine zlv xmv ?_
    refine zla (xli (n := 1) (len := 1) (pv := [(0, .int .i64 n)]) (cs := [.int .i64 n]) (c := ints (fun _ => n)) sl_22 el_3 hS) ?_; rintro v1 w ⟨hS, hv1⟩
    replace hS := hS.n5
    refine zla (xap 2 (r := nx + 1) sl_22 el_3 hS (hS.rowN 4 rfl) (cat_snoc _ _ _)) ?_; rintro v2 w ⟨hS, hv2⟩
    replace hS := hS.n5
    refine zlv xas ?_
    refine zlt <| zrg ?_
    refine zs2 ?_
    refine zlv (xfb 0 fd_137_0) ?_
    refine zlv (xlb 3 pl_3 hS) ?_
    refine zlv (xmul (r := (n * (t.S i))) (e := rfl)) ?_
    refine zlv (xsub (r := c - (n * (t.S i)))) ?_
    refine zlv xas ?_
    refine zln <| zbn <| ztn <| zrg ?_
    refine zlv xmv ?_
    refine zlv (xadd (r := i + 1)) ?_
    refine zlv xas ?_
    refine zln <| zlq ⟨nx + 1, c - (n * (t.S i)), i + 1, v2, (snoc fx nx n), rfl, (by omega), (by omega), (by omega), (by omega), (by omega), ?_, ?_, ?_, rfl, hS.pk [0, 1, 2]⟩
    ·
     rw [hnx, KU_snoc t fx n i0]; omega
    ·
     rw [hnx]; rw [hcu] at hfn; exact KX.snoc hkx i0 hfn.1 hfn.2.1 hfn.2.2.1 hfn.2.2.2.1 hfn.2.2.2.2
    ·
     exact hv2
   iterate 6 refine zlo ?_
   refine zlv xpf ?_
   refine zlt <| zcf <| zxt <| ztx <| ztx <| zbh <| ztn <| zsr ?_
   refine zlv xmv ?_
   have hfn := hsk.fin hk i0 (by omega) (by omega) (by omega)
   have hns := mul_rng (a := n) (b := t.S i) (A := 1000) (B := 4000) (by omega) (by omega) (by omega) (by omega)
   refine zlv xmv ?_
   refine zla (xli (n := 1) (len := 1) (pv := [(0, .int .i64 n)]) (cs := [.int .i64 n]) (c := ints (fun _ => n)) sl_22 el_3 hS) ?_; rintro v3 w ⟨hS, hv3⟩
   replace hS := hS.n5
   refine zla (xap 2 (r := nx + 1) sl_22 el_3 hS (hS.rowN 4 rfl) (cat_snoc _ _ _)) ?_; rintro v4 w ⟨hS, hv4⟩
   replace hS := hS.n5
   refine zlv xas ?_
   refine zlt <| zrg ?_
   refine zs2 ?_
   refine zlv (xfb 0 fd_137_0) ?_
   refine zlv (xlb 3 pl_3 hS) ?_
   refine zlv (xmul (r := (n * (t.S i))) (e := rfl)) ?_
   refine zlv (xsub (r := c - (n * (t.S i)))) ?_
   refine zlv xas ?_
   refine zln <| zbn <| ztn <| zrg ?_
   refine zlv xmv ?_
   refine zlv (xadd (r := i + 1)) ?_
   refine zlv xas ?_
   refine zln <| zlq ⟨nx + 1, c - (n * (t.S i)), i + 1, v4, (snoc fx nx n), rfl, (by omega), (by omega), (by omega), (by omega), (by omega), ?_, ?_, ?_, rfl, hS.pk [0, 1, 2]⟩
   ·
    rw [hnx, KU_snoc t fx n i0]; omega
   ·
    rw [hnx]; rw [hcu] at hfn; exact KX.snoc hkx i0 hfn.1 hfn.2.1 hfn.2.2.1 hfn.2.2.2.1 hfn.2.2.2.2
   ·
    exact hv4
  refine zxt <| ztx <| ztx <| zbh <| ztn <| zsq ?_
  refine zdst [0, 1, 2] [0, 1, 2] 1000 mx_ hS ?_; clear hS; intro w hS
  refine zdv 0 (fun _ => xmv) ?_
  refine zdv 1 (fun _ => xmv) ?_
  refine zdv 2 (fun _ => (xix (kk := 0) sl_27 hvlsls1)) ?_
  refine zdla 3 (fun w hS => (xlr (u := (wlls1 0)) pl_22 (hS.rowN 0 rfl))) ?_
  refine zdv 4 (fun _ => xmv) ?_
  refine zdv 5 (fun _ => (xix (kk := cap) sl_22 (hrlls1 0 (by omega) (by omega)))) ?_
  refine zdla 6 (fun w hS => (xlr (u := .int .i64 ((KI t) 0 cap)) pl_3 (hS.rowIn (k := 0) 1 rfl (by omega) (by omega)))) ?_
  refine zdv 7 (fun _ => xas) ?_
  refine zdv 8 (fun _ => xas) ?_
  refine zdv 9 (fun _ => xas) ?_
  refine zdd <| ztn <| zrt <| zf3 ⟨_, rfl, ?_⟩
  obtain rfl : i = t.n := by omega
  subst hnx
  exact ⟨_, _, _, _, 0, rfl, .inr ⟨hk, rfl, hkx, rfl, rfl⟩, hwx, hS.pk [2]⟩

set_option maxRecDepth 20000 in
theorem c_rprice {vL vD : Value} {p : Prob} {vY : Value} {n : Int} {y : Int → Int} (w0 : World) (h : PAt w0 vL vD p) (hY : Row w0 vY 1 n (ints y)) :
    Calls Tryz.prog 51 [.agg #[vL, vD, .int .i64 p.stock, .int .i64 p.kerf], vY].toArray w0 fun e w => ∃ v, e = .returned v ∧ ∃ r na a worth e, v = .tuple #[r, .int .i64 worth, .int .i64 e] ∧ PriceR p n y na a worth e ∧ Slh r na ∧ Sat w0 w [.own r 1 3 na (ints a)] := by
  have hm := h.L.slh.n0; have hm1 := h.L.slh.n1; have hd := h.D.slh.n0; have hd1 := h.D.slh.n1; have hs := h.is; have hk := h.ik
  have hn0 := hY.slh.n0; have hn1 := hY.slh.n1
  refine zenG Tryz.func51 Tryz.ntmps51 fun w hS => ?_
  refine zsr ?_
  refine zla (xbx (cs := [_, _, _, _]) hS) ?_; rintro _ w ⟨g1, rfl, hS⟩
  replace hS := hS.n1
  refine zs3 ?_
  refine zlt <| zsq <| zsr ?_
  refine zlv (xls 0 st_24 hS) ?_
  refine zlv xmv ?_
  refine zlc (xc0 cl_88) (c_rpriced (p := p) (n := n) (y := y) w (h.below hS.below) (hY.below hS.below)) ?_; rintro _ w ⟨rfl, hS'⟩
  replace hS := hS.cmp hS'; clear hS'
  refine zlv xnot ?_
  refine zlt ?_
  refine zcif ?_ ?_ <;> intro hc
  ·
   refine zsr ?_
   refine zs3 ?_
   refine zlt <| zrt <| ztr <| zf3 ⟨_, rfl, ?_⟩
   exact ⟨_, 0, fun _ => 0, 0, 1, rfl, .inl ⟨‹¬ PrcL p n y›, rfl, rfl, rfl⟩, slh_nil, (hS.addnil 1 3 (ints fun _ => 0)).pk [1]⟩
  refine zsk <| ztn <| zsr ?_
  refine zlv xas ?_
  refine zlt <| zsq <| zsr ?_
  refine zlv xas ?_
  refine zlt <| zbk ?_
  have hpr : PrcL p n y := by first | assumption | exact Classical.not_not.1 ‹_›
  obtain ⟨hok, hnm, hyp⟩ := id hpr
  have hs1 := hok.s1; have hs2 := hok.s2; have hk1 := hok.k1; have hk2 := hok.k2; have hm2 := hok.m2; have hmd := hok.d
  replace hS := hS.addnil 3 137 (dcells (fun _ => 0) (fun _ => 0) (fun _ => 0))
  replace hS := hS.n2
  refine zlp (fun mm M w => ∃ (nC : Int) (fS : Int → Int) (fV : Int → Int) (fM : Int → Int) (i : Int) (wC : Value), mm = ((n - i).toNat) ∧ (0 ≤ i) ∧ (i ≤ n) ∧ (nC = i) ∧ (∀ k, 0 ≤ k → k < i → fS k = (itsOf p y).S k ∧ fV k = (itsOf p y).V k ∧ fM k = (itsOf p y).M k) ∧ (Slh wC nC) ∧ M = [(1, vY), (2, .pointer (some ⟨g1, 0, none⟩)), (4, .slice none 0 0), (5, .int .i64 0), (6, .int .i64 0), (7, wC), (8, .int .i64 i)] ∧ Sat w0 w [.blk g1 [vL, vD, .int .i64 p.stock, .int .i64 p.kerf], .own wC 3 137 nC (dcells fS fV fM)]) ⟨0, (fun _ => 0), (fun _ => 0), (fun _ => 0), 0, (.slice none 0 0), rfl, (by omega), (by omega), (by omega), ?_, ?_, rfl, hS⟩ ?_
  ·
   intro k k0 k1; omega
  ·
   exact slh_nil
  clear hS w
  rintro mm M w ⟨nC, fS, fV, fM, i, wC, rfl, h0, h1, hnC, hcc, hwC, rfl, hS⟩
  refine zsq <| zsr ?_
  refine zs2 ?_
  refine zlv (xln sl_22 hY.slh) ?_
  refine zlv xlss ?_
  refine zlt ?_
  refine zcif ?_ ?_ <;> intro hc
  ·
   refine zsk <| ztn <| zsq <| zbk ?_
   refine zdst [0] [0] 1000 mx_ hS ?_; clear hS; intro w hS
   refine zdv 0 (fun _ => xmv) ?_
   have he := hok.all i h0 (by omega); unfold Prob.each at he
   refine zdv 1 (fun _ => (xfb 0 fd_24_0)) ?_
   refine zdla 2 (fun w hS => (xlb 0 pl_22 hS)) ?_
   refine zdv 3 (fun _ => xmv) ?_
   refine zdv 4 (fun _ => (xix (kk := i) sl_22 h.L.slh)) ?_
   refine zdla 5 (fun w hS => (xlr (u := .int .i64 (p.L i)) pl_3 (h.L.below hS.below))) ?_
   have hbv := h.iL i
   refine zdv 6 (fun _ => (xfb 3 fd_24_3)) ?_
   refine zdla 7 (fun w hS => (xlb 0 pl_3 hS)) ?_
   refine zdv 8 (fun _ => (xadd (r := p.L i + p.kerf))) ?_
   refine zdv 9 (fun _ => xmv) ?_
   refine zdv 10 (fun _ => xmv) ?_
   refine zdv 11 (fun _ => (xix (kk := i) sl_22 hY.slh)) ?_
   refine zdla 12 (fun w hS => (xlr (u := .int .i64 (y i)) pl_3 (hY.below hS.below))) ?_
   refine zdv 13 (fun _ => (xfb 1 fd_24_1)) ?_
   refine zdla 14 (fun w hS => (xlb 0 pl_22 hS)) ?_
   refine zdv 15 (fun _ => xmv) ?_
   refine zdv 16 (fun _ => (xix (kk := i) sl_22 h.D.slh)) ?_
   refine zdla 17 (fun w hS => (xlr (u := .int .i64 (p.D i)) pl_3 (h.D.below hS.below))) ?_
   have hbv := h.iD i
   refine zdv 18 (fun _ => (xany (v := .agg #[.int .i64 (p.L i + p.kerf), .int .i64 (y i), .int .i64 (p.D i)]))) ?_
   refine zda 19 (xli (n := 1) (len := 1) (pv := [(0, .agg #[.int .i64 (p.L i + p.kerf), .int .i64 (y i), .int .i64 (p.D i)])]) (cs := [.int .i64 (p.L i + p.kerf), .int .i64 (y i), .int .i64 (p.D i)]) (c := dcells (fun _ => p.L i + p.kerf) (fun _ => (y i)) (fun _ => p.D i)) sl_136 el_137 hS) ?_; rintro v1 w ⟨hS, hv1⟩
   replace hS := hS.n3
   refine ⟨⟨fun _ => hS.pk [0], hS.pk [0]⟩, ?_⟩
   refine zda 20 (xap 1 (r := nC + 1) sl_136 el_137 hS (hS.rowN 2 rfl) (cat_demand ..) (h1 := (fun k _ _ => dcells_one _ _ _ k))) ?_; rintro v2 w ⟨hS, hv2⟩
   replace hS := hS.n3
   refine ⟨⟨fun _ => hS.pk [0], hS.pk [0]⟩, ?_⟩
   refine zdv 21 (fun _ => xas) ?_
   refine zdd <| zbn <| ztn <| zrg ?_
   refine zlv xmv ?_
   refine zlv (xadd (r := i + 1)) ?_
   refine zlv xas ?_
   refine zln <| zlq ⟨nC + 1, (snoc fS nC (p.L i + p.kerf)), (snoc fV nC (y i)), (snoc fM nC (p.D i)), i + 1, v2, rfl, (by omega), (by omega), (by omega), ?_, ?_, rfl, hS.pk [0, 1]⟩
   ·
    intro k k0 k1; by_cases e : k < i
    · rw [snoc_lt (by omega), snoc_lt (by omega), snoc_lt (by omega)]; exact hcc k k0 e
    · obtain rfl : k = i := by omega
      rw [snoc_at (by omega), snoc_at (by omega), snoc_at (by omega)]; exact ⟨rfl, rfl, rfl⟩
   ·
    exact hv2
  refine zxt <| ztx <| ztx <| zbh <| ztn <| zsr ?_
  refine zlv xmv ?_
  obtain rfl : i = p.m := by omega
  subst hnC
  replace hS := hS.recont 1 rfl (d := dcells (itsOf p y).S (itsOf p y).V (itsOf p y).M) (dcells_congr hcc)
  replace hS := hS.n2
  refine zlv (xfb 2 fd_24_2) ?_
  refine zlv (xlb 0 pl_3 hS) ?_
  refine zlv (xfb 3 fd_24_3) ?_
  refine zlv (xlb 0 pl_3 hS) ?_
  refine zlv (xadd (r := p.stock + p.kerf)) ?_
  refine zlc (xc0 cl_89) (c_rksolve (t := (itsOf p y)) (cap := (p.stock + p.kerf)) w (hS.rowN 1 rfl)) ?_; rintro _ w ⟨vkks1, nkks1, xkks1, wkks1, ekks1, rfl, hksks1, hvkks1, hS'⟩
  replace hS : Sat w0 w [.blk g1 [vL, vD, .int .i64 p.stock, .int .i64 p.kerf], .own wC 3 137 p.m (dcells (itsOf p y).S (itsOf p y).V (itsOf p y).M), .own vkks1 1 3 nkks1 (ints xkks1)] := hS.comp hS'; clear hS'
  refine zs6 ?_
  refine zlt <| zrt <| zf3 ⟨_, rfl, ?_⟩
  have hio := its_ok hok hyp
  obtain ⟨_, q2, q3, q4, q5⟩ := hksks1.resolve_left (fun hh => hh.1 hio)
  replace q2 : nkks1 = p.m := q2
  subst q2
  replace hS := hS.recont 2 rfl (d := ints (aC p y)) (fun k k0 k1 => by unfold ints; rw [aC_eq (by omega) q3 k k0 (by omega)])
  exact ⟨_, _, _, _, _, rfl, .inr ⟨hpr, rfl, rfl, ⟨_, q3⟩, q4, q5⟩, hvkks1, hS.pk [2]⟩

theorem PriceR.same {p : Prob} {n : Int} {y a b : Int → Int} {na nb w1 w2 e1 e2 : Int} (h : PriceR p n y na a w1 e1) (h' : PriceR p n y nb b w2 e2) : na = nb ∧ (∀ k, 0 ≤ k → k < na → a k = b k) ∧ w1 = w2 ∧ e1 = e2 := by
  rcases h with ⟨h1, h2, h3, h4⟩ | ⟨h1, h2, h3, _, h4, h5⟩ <;> rcases h' with ⟨g1, g2, g3, g4⟩ | ⟨g1, g2, g3, _, g4, g5⟩
  · exact ⟨by omega, fun k k0 k1 => by omega, by omega, by omega⟩
  · exact absurd g1 h1
  · exact absurd h1 g1
  · exact ⟨by omega, fun k k0 k1 => by rw [h3, g3], by omega, by omega⟩

end Go.Proofs.YtopmifmfecfaaaaGreat
