/- The walk of ColumnFinal. -/
import Derived.Test.YtopmifmfecfaaaaGreatGv
import Derived.Test.YtopmifmfecfaaaaGreatK8
import Derived.Test.YtopmifmfecfaaaaGreatFq
namespace Go.Proofs.YtopmifmfecfaaaaGreat
open Go Go.RowKit Go.Proofs.Gw
set_option linter.unusedVariables false

theorem cl_11 : calledT Tryz.prog 11 = true := by kernel_rfl
theorem el_35 : elemT Tryz.prog 35 = some (.agg #[.slice none 0 0, .slice none 0 0, .int .i64 0, .int .i64 0], 4, 64) := by kernel_rfl
theorem crnMx {u e : Int} {ml : Int → Int} {mf : Int → Int → Int} (h : CRn pMx u ml mf e) : u = stN pMx 2 ∧ ml = stL pMx 2 ∧ mf = stG pMx 2 ∧ e = 0 := by
  induction h with
  | start h =>
    rcases h with ⟨h, _⟩ | ⟨_, h1, h2, h3, h4⟩
    · exact absurd okMx h
    · exact ⟨h1, h2, h3, h4⟩
  | go h hs hp hn ih =>
    exfalso
    obtain ⟨rfl, rfl, rfl, _⟩ := ih
    obtain ⟨_, rfl⟩ := solMx hs
    rcases hp with ⟨hp, _⟩ | ⟨_, _, _, _, hw, hf⟩
    · exact hp ⟨okMx, by decide +kernel, bnd (by decide +kernel)⟩
    · refine hn ⟨hf, ?_⟩
      rw [hw]; decide +kernel
theorem colMx {u e : Int} {ml : Int → Int} {mf : Int → Int → Int} {s : So} (h : ColR pMx u ml mf s e) : e = 0 ∧ 0 < s.den ∧ s.val = 2 * s.den ∧ s.den ≤ 1073741824 := by
  rcases h with ⟨h, _⟩ | ⟨_, h1, _, _, u1, ml1, mf1, e1, h2, h3⟩ | ⟨_, h1, h2, h3, _⟩
  · exact absurd okMx h
  · exfalso
    obtain ⟨rfl, rfl, rfl, he⟩ := crnMx h2
    rcases h3 with ⟨h3, _⟩ | ⟨_, s1, h3⟩
    · exact h3 he
    · exact h1 (solMx h3).1
  · obtain ⟨rfl, rfl, rfl, _⟩ := crnMx h2
    obtain ⟨_, rfl⟩ := solMx h3
    exact ⟨h1, by decide +kernel, by decide +kernel, by decide +kernel⟩
def yMx : Int → Int := fun k => [2, 1].getD k.toNat 0
def xMx : Int → Int := fun k => [2, 0].getD k.toNat 0
theorem kxMx : KX (itsOf pMx yMx) (pMx.stock + pMx.kerf) xMx pMx.m := by
  intro i i0 i1
  have hm : pMx.m = 2 := rfl
  have : i = 0 ∨ i = 1 := by omega
  rcases this with rfl | rfl
  · refine ⟨by decide +kernel, by decide +kernel, by decide +kernel, by decide +kernel, fun j j0 j1 _ => ?_⟩
    have h2 : (itsOf pMx yMx).M 0 = 2 := by decide +kernel
    have h3 : xMx 0 = 2 := by decide +kernel
    omega
  · refine ⟨by decide +kernel, by decide +kernel, by decide +kernel, by decide +kernel, fun j j0 _ j2 => ?_⟩
    have h2 : (itsOf pMx yMx).S 1 = 4 := by decide +kernel
    have h3 : xMx 1 = 0 := by decide +kernel
    have h4 : pMx.stock + pMx.kerf - KU (itsOf pMx yMx) xMx (1 : Int).toNat = 0 := by decide +kernel
    rw [h2, h4] at j2; omega
theorem prcMx {na worth e : Int} {a : Int → Int} (h : PriceR pMx 2 yMx na a worth e) : e = 0 ∧ worth = 4 ∧ na = 2 ∧ ∀ k, 0 ≤ k → k < 2 → a k = xMx k := by
  rcases h with ⟨h, _⟩ | ⟨_, h1, h2, _, h3, h4⟩
  · exact absurd ⟨okMx, by decide +kernel, bnd (by decide +kernel)⟩ h
  · refine ⟨h4, by rw [h3]; decide +kernel, h1, fun k k0 k1 => ?_⟩
    rw [h2]; exact (aC_eq (by decide +kernel) kxMx k k0 k1).symm

set_option maxHeartbeats 4000000 in
set_option maxRecDepth 20000 in
theorem c_awake31  (w0 : World) :
    Calls Tryz.prog 9 [].toArray w0 fun e w => ∃ v, e = .returned v ∧ v = .bool true ∧ Sat w0 w [] := by
  refine zenG Tryz.func9 Tryz.ntmps9 fun w hS => ?_
  refine zsr ?_
  refine zlv xas ?_
  refine zlz ?_
  refine zla (xli (n := 2) (len := 2) (pv := [(0, .int .i64 5), (1, .int .i64 3)]) (cs := [.int .i64 5, .int .i64 3]) (c := ints (fun k => [5, 3].getD k.toNat 0)) sl_22 el_3 hS) ?_; rintro v1 w ⟨hS, hv1⟩
  replace hS := hS.n1
  refine zla (xli (n := 2) (len := 2) (pv := [(0, .int .i64 2), (1, .int .i64 3)]) (cs := [.int .i64 2, .int .i64 3]) (c := ints (fun k => [2, 3].getD k.toNat 0)) sl_22 el_3 hS) ?_; rintro v2 w ⟨hS, hv2⟩
  replace hS := hS.n2
  refine zlv (xany (v := .agg #[v1, v2, .int .i64 11, .int .i64 1]) (hr := by obtain ⟨_, _, _, _, rfl, _⟩ := hv1; obtain ⟨_, _, _, _, rfl, _⟩ := hv2; kernel_rfl)) ?_
  refine zla (xal (cs := [_, _, _, _]) el_35 hS) ?_; rintro _ w ⟨g1, rfl, hS⟩
  replace hS := hS.n3
  refine zle (xsw 2 st_35 hS (hd := (ones_cons hv1.one (ones_cons hv2.one (ones_cons rfl (ones_cons rfl ones_nil)))))) ?_; clear hS; rintro w hS
  replace hS := hS.n3
  refine zlz ?_
  refine zlv (xls 2 st_35 hS) ?_
  refine zlc (xc0 cl_11) (c_csolve (p := (⟨2, (fun k => [5, 3].getD k.toNat 0), 2, (fun k => [2, 3].getD k.toNat 0), 11, 1⟩ : Prob)) w (⟨(hS.rowN 0 rfl), (hS.rowN 1 rfl), (litb _ (by decide)), (litb _ (by decide)), (by (try dsimp only); omega), (by (try dsimp only); omega)⟩ : PAt _ _ _ (⟨2, (fun k => [5, 3].getD k.toNat 0), 2, (fun k => [2, 3].getD k.toNat 0), 11, 1⟩ : Prob))) ?_; rintro _ w ⟨vPcs1, vvcs1, vXcs1, vYcs1, ucs1, mlcs1, mfcs1, scs1, ecs1, rfl, hcocs1, hvPcs1, hvXcs1, hvYcs1, hS'⟩
  replace hS : Sat w0 w [.own v1 1 3 2 (ints (fun k => [5, 3].getD k.toNat 0)), .own v2 1 3 2 (ints (fun k => [2, 3].getD k.toNat 0)), .blk g1 [v1, v2, .int .i64 11, .int .i64 1], .own vPcs1 1 22 ucs1 vvcs1, .sem (Frame.rows 3 ucs1 vvcs1 mlcs1 mfcs1), .own vXcs1 1 3 scs1.n (ints scs1.X), .own vYcs1 1 3 scs1.m (ints scs1.Y)] := hS.comp hS'; clear hS'
  have hrwcs1 := fun k (k0 : 0 ≤ k) (k1 : k < ucs1) => hS.slhIn 4 rfl k0 k1
  refine zs3 ?_
  obtain ⟨z1, z2, z3, z4⟩ := colMx hcocs1
  refine zla (xal (cs := [_, _, _, _, _]) el_31 hS) ?_; rintro _ w ⟨g2, rfl, hS⟩
  replace hS := hS.n8
  refine zle (xsw 7 st_31 hS (hd := (ones_cons hvPcs1.one (ones_cons hvXcs1.one (ones_cons hvYcs1.one (ones_cons rfl (ones_cons rfl ones_nil))))))) ?_; clear hS; rintro w hS
  replace hS := hS.n8
  refine zlv xas ?_
  refine zlz ?_
  refine zlv (xls 2 st_35 hS) ?_
  refine zla (xli (n := 2) (len := 2) (pv := [(0, .int .i64 2), (1, .int .i64 1)]) (cs := [.int .i64 2, .int .i64 1]) (c := ints (fun k => [2, 1].getD k.toNat 0)) sl_22 el_3 hS) ?_; rintro v3 w ⟨hS, hv3⟩
  replace hS := hS.n9
  refine zlc (xc0 cl_46) (c_price (p := (⟨2, (fun k => [5, 3].getD k.toNat 0), 2, (fun k => [2, 3].getD k.toNat 0), 11, 1⟩ : Prob)) (n := 2) (y := (fun k => [2, 1].getD k.toNat 0)) w (⟨(hS.rowN 0 rfl), (hS.rowN 1 rfl), (litb _ (by decide)), (litb _ (by decide)), (by (try dsimp only); omega), (by (try dsimp only); omega)⟩ : PAt _ _ _ (⟨2, (fun k => [5, 3].getD k.toNat 0), 2, (fun k => [2, 3].getD k.toNat 0), 11, 1⟩ : Prob)) (hS.rowN 8 rfl)) ?_; rintro _ w ⟨vapz1, napz1, xapz1, wapz1, eapz1, rfl, hpzpz1, hvapz1, hS'⟩
  replace hS : Sat w0 w [.own v1 1 3 2 (ints (fun k => [5, 3].getD k.toNat 0)), .own v2 1 3 2 (ints (fun k => [2, 3].getD k.toNat 0)), .blk g1 [v1, v2, .int .i64 11, .int .i64 1], .own vPcs1 1 22 ucs1 vvcs1, .sem (Frame.rows 3 ucs1 vvcs1 mlcs1 mfcs1), .own vXcs1 1 3 scs1.n (ints scs1.X), .own vYcs1 1 3 scs1.m (ints scs1.Y), .blk g2 [vPcs1, vXcs1, vYcs1, .int .i64 scs1.val, .int .i64 scs1.den], .own v3 1 3 2 (ints (fun k => [2, 1].getD k.toNat 0)), .own vapz1 1 3 napz1 (ints xapz1)] := hS.comp hS'; clear hS'
  refine zs4 ?_
  obtain ⟨z5, z6, z7, z8⟩ := prcMx hpzpz1
  refine zs3 ?_
  refine zlz ?_
  refine zs3 ?_
  refine zlb 24 ?_ ?_ <;> intro hc
  ·
   refine zs4 ?_
   refine zlb 28 ?_ ?_ <;> intro hc
   ·
    refine zlv (xfb 1 fd_31_1) ?_
    refine zlv (xfb 4 fd_29_3) ?_
    refine zlv (xlb 7 pl_3 hS) ?_
    refine zs3 ?_
    refine zlb 34 ?_ ?_ <;> intro hc
    ·
     refine zlv (xfb 1 fd_31_1) ?_
     refine zlv (xfb 3 fd_29_2) ?_
     refine zlv (xlb 7 pl_3 hS) ?_
     refine zlv (xfb 1 fd_31_1) ?_
     refine zlv (xfb 4 fd_29_3) ?_
     refine zlv (xlb 7 pl_3 hS) ?_
     refine zlv (xmul (r := 2 * scs1.den)) ?_
     refine zs3 ?_
     refine zlb 44 ?_ ?_ <;> intro hc
     ·
      refine zs4 ?_
      refine zlb 48 ?_ ?_ <;> intro hc
      ·
       refine zlv xmv ?_
       have hsm : napz1 = 2 ∧ ∀ k, 0 ≤ k → k < napz1 → xapz1 k = (fun k => [2, 0].getD k.toNat 0) k := ⟨z7, fun k k0 k1 => z8 k k0 (by omega)⟩
       refine zla (xli (n := 2) (len := 2) (pv := [(0, .int .i64 2), (1, .int .i64 0)]) (cs := [.int .i64 2, .int .i64 0]) (c := ints (fun k => [2, 0].getD k.toNat 0)) sl_22 el_3 hS) ?_; rintro v4 w ⟨hS, hv4⟩
       replace hS := hS.n11
       refine zlc (xc0 cl_45) (c_same28 (n := napz1) (m := 2) (f := xapz1) (g := (fun k => [2, 0].getD k.toNat 0)) w (hS.rowN 9 rfl) (hS.rowN 10 rfl)) ?_; rintro _ w ⟨rfl, hS'⟩
       replace hS := hS.cmp hS'; clear hS'
       refine zs2 ?_
       refine zlt <| zrt <| zf1 ⟨_, rfl, ?_⟩
       exact ⟨(true_B hsm).symm, hS.nl⟩
      iterate 3 refine zlo ?_
      refine zs2 ?_
      refine zlt <| zrt <| zf1 ⟨_, rfl, ?_⟩
      exfalso
      first | omega | exact absurd hsm ‹_›
     iterate 2 refine zlo ?_
     refine zs2 ?_
     iterate 3 refine zlo ?_
     refine zs2 ?_
     refine zlt <| zrt <| zf1 ⟨_, rfl, ?_⟩
     exfalso
     first | omega | exact absurd hsm ‹_›
    iterate 8 refine zlo ?_
    refine zs2 ?_
    iterate 2 refine zlo ?_
    refine zs2 ?_
    iterate 3 refine zlo ?_
    refine zs2 ?_
    refine zlt <| zrt <| zf1 ⟨_, rfl, ?_⟩
    exfalso
    first | omega | exact absurd hsm ‹_›
   iterate 4 refine zlo ?_
   refine zs2 ?_
   iterate 8 refine zlo ?_
   refine zs2 ?_
   iterate 2 refine zlo ?_
   refine zs2 ?_
   iterate 3 refine zlo ?_
   refine zs2 ?_
   refine zlt <| zrt <| zf1 ⟨_, rfl, ?_⟩
   exfalso
   first | omega | exact absurd hsm ‹_›
  iterate 2 refine zlo ?_
  refine zs2 ?_
  iterate 4 refine zlo ?_
  refine zs2 ?_
  iterate 8 refine zlo ?_
  refine zs2 ?_
  iterate 2 refine zlo ?_
  refine zs2 ?_
  iterate 3 refine zlo ?_
  refine zs2 ?_
  refine zlt <| zrt <| zf1 ⟨_, rfl, ?_⟩
  exfalso
  first | omega | exact absurd hsm ‹_›

theorem moreP_bd {p : Prob} {k : Int} (h : ∀ k, -9223372036854775808 ≤ p.D k ∧ p.D k ≤ 9223372036854775807) (hk : p.D k ≤ 1000) : ∀ j, -9223372036854775808 ≤ (moreP p k).D j ∧ (moreP p k).D j ≤ 9223372036854775807 := fun j => by
  rw [more_D]; have := h j; have := h k; split <;> omega

theorem one_sum {x : Int → Int} {n : Nat} {k : Int} (k0 : 0 ≤ k) (k1 : k < (n : Int)) (h : ∀ j, 0 ≤ j → j < (n : Int) → j ≠ k → x j = 0) : sumTo x n = x k := by
  rw [sumTo_split (s := k) k0 k1]
  have : sumTo (fun j => if j = k then 0 else x j) n = sumTo (fun _ => 0) n := sumTo_congr fun j j0 j1 => by
    by_cases e : j = k
    · rw [if_pos e]
    · rw [if_neg e, h j j0 j1 e]
  rw [this, sumTo_zero]; omega
/-- The pattern of one length is proper. -/
theorem one_prop {p : Prob} (hp : p.Ok) {i : Int} (i0 : 0 ≤ i) (i1 : i < p.m) : ProperP p p.m (oneP p i) ∧ (0 < p.D i → 1 ≤ oneP p i i) := by
  have hm := hp.m1; have hk := hp.k1; have hs := hp.s1
  have hd := dem_nn hp i0 i1
  have hq := quo_facts (a := p.stock + p.kerf) (b := p.L i + p.kerf) (by omega) (by omega)
  have h0 : 0 ≤ (p.stock + p.kerf).tdiv (p.L i + p.kerf) := Int.tdiv_nonneg (by omega) (by omega)
  have h1 : 1 ≤ (p.stock + p.kerf).tdiv (p.L i + p.kerf) := by
    rw [Int.tdiv_eq_ediv_of_nonneg (by omega)]
    exact (Int.le_ediv_iff_mul_le (by omega)).2 (by omega)
  have hv : oneP p i i = min (p.D i) ((p.stock + p.kerf).tdiv (p.L i + p.kerf)) := if_pos rfl
  have hz : ∀ j, j ≠ i → oneP p i j = 0 := fun j e => if_neg e
  refine ⟨⟨⟨hp, rfl, fun j j0 j1 => ?_, ?_⟩, fun j j0 j1 => ?_⟩, fun h => by rw [hv]; omega⟩
  · by_cases e : j = i
    · rw [e, hv]; omega
    · rw [hz j e]; omega
  · have e : Used p (oneP p i) p.m.toNat = oneP p i i * (p.L i + p.kerf) := one_sum (x := fun j => oneP p i j * (p.L j + p.kerf)) i0 (by omega) fun j _ _ e => by show oneP p i j * _ = 0; rw [hz j e, Int.zero_mul]
    rw [e, hv]
    have h2 := Int.mul_le_mul_of_nonneg_right (show min (p.D i) ((p.stock + p.kerf).tdiv (p.L i + p.kerf)) ≤ (p.stock + p.kerf).tdiv (p.L i + p.kerf) by omega) (show 0 ≤ p.L i + p.kerf by omega)
    have h3 : (p.stock + p.kerf).tdiv (p.L i + p.kerf) * (p.L i + p.kerf) ≤ p.stock + p.kerf := by
      rw [Int.tdiv_eq_ediv_of_nonneg (by omega)]
      exact Int.ediv_mul_le _ (by omega)
    omega
  · by_cases e : j = i
    · rw [e, hv]; omega
    · rw [hz j e]; exact (dem_nn hp j0 j1).1
theorem st_inv {p : Prob} (hp : p.Ok) : ∀ k : Nat, (k : Int) ≤ p.m → (∀ j, 0 ≤ j → j < stN p k → ProperP p (stL p k j) (stG p k j)) ∧ ∀ i, 0 ≤ i → i < (k : Int) → 0 < p.D i → ∃ j, 0 ≤ j ∧ j < stN p k ∧ 1 ≤ stG p k j i
  | 0, _ => ⟨fun j a b => by simp only [stN] at b; omega, fun i a b => by omega⟩
  | k + 1, hk => by
    obtain ⟨h1, h2⟩ := st_inv hp k (by omega)
    have hr := (stN_rng p k).1
    simp only [stN, stL, stG]
    by_cases e : 0 < p.D k
    · rw [if_pos e, if_pos e, if_pos e]
      obtain ⟨q1, q2⟩ := one_prop hp (i := (k : Int)) (by omega) (by omega)
      constructor
      · intro j j0 j1
        by_cases e2 : j < stN p k
        · rw [gsn_lt e2, gsn_lt e2]; exact h1 j j0 e2
        · rw [gsn_at e2, gsn_at e2]; exact q1
      · intro i i0 i1 hi
        by_cases e2 : i = k
        · subst e2
          refine ⟨stN p k, hr, by omega, ?_⟩
          rw [gsn_at (by omega)]; exact q2 e
        · obtain ⟨j, j0, j1, hj⟩ := h2 i i0 (by omega) hi
          refine ⟨j, j0, by omega, ?_⟩
          rw [gsn_lt j1]; exact hj
    · rw [if_neg e, if_neg e, if_neg e]
      refine ⟨h1, fun i i0 i1 hi => h2 i i0 ?_ hi⟩
      by_cases e2 : i = k
      · subst e2; omega
      · omega
/-- The dearest pattern is proper. -/
theorem price_prop {p : Prob} {n na worth e : Int} {y a : Int → Int} (h : PriceR p n y na a worth e) (he : e = 0) : ProperP p na a := by
  rcases h with ⟨_, _, _, h⟩ | ⟨⟨hp, hn, hy⟩, rfl, rfl, ⟨x, hx⟩, _, _⟩
  · omega
  · have hm := hp.m1; have hk := hp.k1; have hs := hp.s1
    have hq := aC_eq (by omega) hx
    have hu := (hx.worth (by omega) (by show 0 ≤ p.m; omega)).1
    have hb : ∀ i, 0 ≤ i → i < p.m → 0 ≤ aC p y i ∧ aC p y i ≤ p.D i := fun i i0 i1 => by
      have h1 := hx i i0 i1
      rw [← hq i i0 i1]; exact ⟨h1.1, h1.2.1⟩
    refine ⟨⟨hp, rfl, fun i i0 i1 => ?_, ?_⟩, fun i i0 i1 => (hb i i0 i1).2⟩
    · have := hb i i0 i1; have := dem_nn hp i0 i1; omega
    · refine Int.le_trans (Int.le_of_eq ?_) hu
      show sumTo (fun i => aC p y i * (p.L i + p.kerf)) p.m.toNat = sumTo (fun i => x i * (p.L i + p.kerf)) p.m.toNat
      exact sumTo_congr fun i i0 i1 => by rw [hq i i0 (by omega)]
theorem crn_inv {p : Prob} (hok : p.Ok) {u e : Int} {ml : Int → Int} {mf : Int → Int → Int} (h : CRn p u ml mf e) : e = 0 ∧ PropL p u ml mf ∧ 0 ≤ u ∧ ∀ i, 0 ≤ i → i < p.m → 0 < p.D i → ∃ j, 0 ≤ j ∧ j < u ∧ 1 ≤ mf j i := by
  have hm := hok.m1
  induction h with
  | start h =>
    rcases h with ⟨h, _⟩ | ⟨_, h1, h2, h3, h4⟩
    · exact absurd hok h
    · subst h1; subst h2; subst h3
      obtain ⟨q1, q2⟩ := st_inv hok p.m.toNat (by omega)
      exact ⟨h4, ⟨hok, q1⟩, (stN_rng p _).1, fun i i0 i1 => q2 i i0 (by omega)⟩
  | go h hs hp hn ih =>
    rename_i u1 na1 w1 f1 ml1 mf1 a1 s1
    obtain ⟨_, h2, h3, h4⟩ := ih
    have hpr := (hs.ok h3).prc
    have hf : f1 = 0 := by
      rcases hp with ⟨q, _⟩ | ⟨_, _, _, _, _, q⟩
      · exact absurd hpr q
      · exact q
    refine ⟨hf, ⟨hok, fun k k0 k1 => ?_⟩, by omega, fun i i0 i1 hi => ?_⟩
    · by_cases e : k < u1
      · rw [gsn_lt e, gsn_lt e]; exact h2.2 k k0 e
      · rw [gsn_at e, gsn_at e]; exact price_prop hp hf
    · obtain ⟨j, j0, j1, hj⟩ := h4 i i0 i1 hi
      exact ⟨j, j0, by omega, by rw [gsn_lt j1]; exact hj⟩
theorem lp_ok {p : Prob} {u : Int} {ml : Int → Int} {mf : Int → Int → Int} (h : PropL p u ml mf) (hu : 1 ≤ u) (hu2 : u ≤ 60) (hm : p.m ≤ 16) : LOk (lpOf p u mf) := by
  have hp := h.1
  refine ⟨hu, hu2, hm, hp.d, fun j _ _ => by show (0 : Int) ≤ 1 ∧ (1 : Int) ≤ 1000000; omega, fun i i0 i1 => ?_, fun i i0 i1 => ⟨rfl, fun j j0 j1 => ?_⟩⟩
  · have := dem_nn hp i0 i1
    show -1000000 ≤ p.D i ∧ p.D i ≤ 1000000; omega
  · have h1 := (prop_used (h.2 j j0 j1)).1 i i0 i1
    have := dem_nn hp i0 i1
    show -1000000 ≤ mf j i ∧ mf j i ≤ 1000000; omega
theorem ms_errs {p : Prob} {u e : Int} {ml : Int → Int} {mf : Int → Int → Int} {s : So} (hP : PropL p u ml mf) (hu : 0 ≤ u) (hc : ∀ i, 0 ≤ i → i < p.m → 0 < p.D i → ∃ j, 0 ≤ j ∧ j < u ∧ 1 ≤ mf j i) (h : MSolveR p u ml mf s e) : e = 0 ∨ e = 2 ∨ e = 9 := by
  have hp := hP.1
  have hm := hp.m1; have hd := hp.d
  rcases h with ⟨h, _⟩ | ⟨_, _, _, h⟩ | ⟨_, _, _, h1, ⟨k, k0, k1, hk⟩, _, _⟩ | ⟨_, _, _, _, _, _, h⟩ | ⟨_, h2, h3, h4, h5⟩
  · exact absurd hP h
  · omega
  · obtain ⟨j, j0, j1, _⟩ := hc k k0 (by omega) hk; omega
  · omega
  · rcases h5.errs (lp_ok hP h4 h3 h2) (by show 0 ≤ p.m; omega) with h | h | h | h
    · omega
    · omega
    · omega
    · exfalso
      obtain ⟨y, hy⟩ := h5.none (by show 0 ≤ p.m; omega) h
      have := ref_none hy (show 0 ≤ u by omega) (show 0 ≤ p.m by omega) (x := fun _ => 1000) (a := 1) (by omega) (fun j _ _ => by omega) fun i i0 i1 => by
        have hd := dem_nn hp i0 i1
        have hnn : ∀ j, 0 ≤ j → j < (u.toNat : Int) → 0 ≤ mf j i * 1000 := fun j j0 j1 => by
          have := ((prop_used (hP.2 j j0 (by omega))).1 i i0 i1).1; omega
        show p.D i * 1 ≤ sumTo (fun j => mf j i * 1000) u.toNat
        rcases Int.lt_or_le 0 (p.D i) with e | e
        · obtain ⟨j, j0, j1, hj⟩ := hc i i0 i1 e
          have := sumTo_one (f := fun j => mf j i * 1000) (n := u.toNat) j0 (by omega) hnn
          have h9 : mf j i * 1000 ≤ sumTo (fun j => mf j i * 1000) u.toNat := this
          omega
        · have := sumTo_nonneg hnn; omega
      omega
theorem ColR.errs {p : Prob} {u e : Int} {ml : Int → Int} {mf : Int → Int → Int} {s : So} (hok : p.Ok) (h : ColR p u ml mf s e) : (e ≠ 0 ∧ u = 0 ∧ (e = 9 ∨ e = 2)) ∨ e = 0 := by
  rcases h with ⟨h, _⟩ | ⟨_, he, hu, _, u1, ml1, mf1, e1, h1, h2⟩ | ⟨_, h, _⟩
  · exact absurd hok h
  · obtain ⟨q1, q2, q3, q4⟩ := crn_inv hok h1
    rcases h2 with ⟨h2, _⟩ | ⟨_, s1, h2⟩
    · exact absurd q1 h2
    · have := ms_errs q2 q3 q4 h2
      exact .inl ⟨he, hu, by omega⟩
  · exact .inr h
theorem ColR.few {p : Prob} {u e : Int} {ml : Int → Int} {mf : Int → Int → Int} {s : So} (h : ColR p u ml mf s e) (he : e = 0) : u ≤ 60 := by
  rcases h with ⟨_, _, _, h⟩ | ⟨_, h, _⟩ | ⟨_, _, _, h1, _⟩
  · omega
  · exact absurd he h
  · exact h1.few.2.1
theorem fit_rng {x c s : Int} (x0 : 0 ≤ x) (hx : x ≤ c.tdiv s) (c0 : 0 ≤ c) (hs : 1 ≤ s) : 0 ≤ x * s ∧ x * s ≤ c := by
  have hq := quo_facts (a := c) (b := s) c0 hs
  have h1 := Int.mul_nonneg x0 (show 0 ≤ s by omega)
  have h2 := Int.mul_le_mul_of_nonneg_right hx (show 0 ≤ s by omega)
  omega
theorem sum_snoc {x y : Int → Int} {i n : Int} (i0 : 0 ≤ i) : sumTo (fun k => snoc x i n k * y k) (i + 1).toNat = sumTo (fun k => x k * y k) i.toNat + n * y i := by
  rw [sumTo_next _ i0]
  have h : sumTo (fun k => snoc x i n k * y k) i.toNat = sumTo (fun k => x k * y k) i.toNat := sumTo_congr fun k k0 k1 => by rw [snoc_lt (by omega)]
  rw [h, snoc_at (by omega)]
theorem used_snoc {p : Prob} {x : Int → Int} {i n : Int} (i0 : 0 ≤ i) : Used p (snoc x i n) (i + 1).toNat = Used p x i.toNat + n * (p.L i + p.kerf) := sum_snoc i0

theorem xmin3 {P : Program} {L : List (Nat × Value)} {w : World} {o : Oper} {x y z : Operand} {k : IntKind} {m n i r : Int} {ts : Array TypeId} (ho : o.op = .call { callee := .builtin .min, args := #[x, y, z], argTypes := ts } := by exact rfl) (hx : evL L x = some (.int k m) := by exact rfl) (hy : evL L y = some (.int k n) := by exact rfl) (hz : evL L z = some (.int k i) := by exact rfl) (e : r = min (min m n) i := by exact rfl) : Runs P L w o (.value (.int k r)) w := fun ρ h => by
  subst e
  have h1 : (if n < m then n else m) = min m n := by rw [Int.min_def]; split <;> split <;> omega
  have h2 : (if i < min m n then i else min m n) = min (min m n) i := by rw [Int.min_def (min m n)]; split <;> split <;> omega
  have h3 : min (if n < m then n else m) i = min (min m n) i := by rw [h1]
  simp [execOp, ho, resolve, invoke, builtin, h _ _ hx, h _ _ hy, h _ _ hz, Builtin.min_, Builtin.min2, h1, h2]

end Go.Proofs.YtopmifmfecfaaaaGreat
