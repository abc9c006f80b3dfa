/- The walk of DualRight. -/
import Derived.Test.YtopmifmfecfaaaaGreatGv
import Derived.Test.YtopmifmfecfaaaaGreatD7
import Derived.Test.YtopmifmfecfaaaaGreatFs
namespace Go.Proofs.YtopmifmfecfaaaaGreat
open Go Go.RowKit Go.Proofs.Gw
set_option linter.unusedVariables false

theorem cl_27 : calledT Tryz.prog 27 = true := by kernel_rfl
/-- The table's worth is that of some pattern. -/
theorem Tab_at {p : Prob} (hp : p.Ok) (y : Int → Int) : ∀ (j : Nat), (j : Int) ≤ p.m → ∀ c, 0 ≤ c → ∃ x : Int → Int, (∀ k, 0 ≤ k → k < (j : Int) → 0 ≤ x k ∧ x k ≤ p.D k) ∧ sumTo (fun k => x k * (p.L k + p.kerf)) j ≤ c ∧ Tab p y j c = sumTo (fun k => x k * y k) j
  | 0, _, c, hc => ⟨fun _ => 0, fun k k0 k1 => by omega, by simp [sumTo]; exact hc, rfl⟩
  | j + 1, hj, c, hc => by
    have h1 := hp.all j (by omega) (by omega)
    unfold Prob.each at h1
    have h2 := hp.k1
    obtain ⟨n, n1, n2, n3⟩ := R_ex (Tab p y j) (p.L j + p.kerf) (y j) (p.D j).toNat c hc
    obtain ⟨x, x1, x2, x3⟩ := Tab_at hp y j (by omega) (c - n * (p.L j + p.kerf)) (by omega)
    refine ⟨snoc x j n, fun k k0 k1 => ?_, ?_, ?_⟩
    · by_cases e : k < (j : Int)
      · rw [snoc_lt e]; exact x1 k k0 e
      · rw [snoc_at e, show k = (j : Int) by omega]; omega
    · have e : sumTo (fun k => snoc x j n k * (p.L k + p.kerf)) (j + 1) = sumTo (fun k => x k * (p.L k + p.kerf)) j + n * (p.L j + p.kerf) := by
        have h3 := sumTo_next (fun k => snoc x j n k * (p.L k + p.kerf)) (i := (j : Int)) (by omega)
        rw [show ((j : Int) + 1).toNat = j + 1 by omega, Int.toNat_natCast] at h3
        rw [h3, snoc_at (by omega)]
        congr 1
        exact sumTo_congr fun k k0 k1 => by rw [snoc_lt k1]
      rw [e]; omega
    · have e : sumTo (fun k => snoc x j n k * y k) (j + 1) = sumTo (fun k => x k * y k) j + n * y j := by
        have h3 := sumTo_next (fun k => snoc x j n k * y k) (i := (j : Int)) (by omega)
        rw [show ((j : Int) + 1).toNat = j + 1 by omega, Int.toNat_natCast] at h3
        rw [h3, snoc_at (by omega)]
        congr 1
        exact sumTo_congr fun k k0 k1 => by rw [snoc_lt k1]
      rw [e, ← x3, ← n3]; rfl
theorem Worth_at {p : Prob} (hp : p.Ok) (y : Int → Int) : ∃ x : Int → Int, (∀ k, 0 ≤ k → k < p.m → 0 ≤ x k ∧ x k ≤ p.D k) ∧ Used p x p.m.toNat ≤ p.stock + p.kerf ∧ Worth p y = sumTo (fun k => x k * y k) p.m.toNat := by
  have hm := hp.m1; have hs := hp.s1; have hk := hp.k1
  obtain ⟨x, h1, h2, h3⟩ := Tab_at hp y p.m.toNat (by omega) (p.stock + p.kerf) (by omega)
  exact ⟨x, fun k k0 k1 => h1 k k0 (by omega), h2, h3⟩
theorem Worth_le {p : Prob} (hp : p.Ok) (y : Int → Int) : Worth p y ≤ WC p y := by
  obtain ⟨x, h1, h2, h3⟩ := Worth_at hp y
  rw [h3]; exact wc_top hp h1 h2
theorem Tot_sum (D y : Int → Int) : ∀ n : Nat, Tot D y n = sumTo (fun k => D k * y k) n
  | 0 => rfl
  | n + 1 => by
    have h3 := sumTo_next (fun k => D k * y k) (i := (n : Int)) (by omega)
    rw [show ((n : Int) + 1).toNat = n + 1 by omega, Int.toNat_natCast] at h3
    rw [h3, ← Tot_sum D y n]; rfl
/-- The certificates are right. -/
theorem mat_right {p : Prob} (hp : p.Ok) : Chk p (matC p).n (matC p).y (matC p).q = 0 := by
  have hm := hp.m1; have hs := hp.s1; have hs2 := hp.s2; have hk := hp.k1; have hk2 := hp.k2
  refine chk0 hp ⟨by show 1 ≤ p.stock + p.kerf; omega, by show p.stock + p.kerf ≤ _; omega, fun k k0 k1 => ?_⟩ rfl ?_
  · have he := hp.all k k0 k1
    unfold Prob.each at he
    show 0 ≤ p.L k + p.kerf ∧ p.L k + p.kerf ≤ _; omega
  · obtain ⟨x, h1, h2, h3⟩ := Worth_at hp (fun k => p.L k + p.kerf)
    show ¬ p.stock + p.kerf < Worth p (fun k => p.L k + p.kerf)
    rw [h3]
    have : sumTo (fun k => x k * (p.L k + p.kerf)) p.m.toNat = Used p x p.m.toNat := rfl
    omega
theorem half_right {p : Prob} (hp : p.Ok) : Chk p (halfC p).n (halfC p).y (halfC p).q = 0 := by
  have hm := hp.m1; have hs := hp.s1; have hs2 := hp.s2; have hk := hp.k1; have hk2 := hp.k2
  refine chk0 hp ⟨Int.le_refl _, by show (1 : Int) ≤ _; omega, fun k k0 k1 => ?_⟩ rfl ?_
  · show 0 ≤ halfY p k ∧ halfY p k ≤ _
    unfold halfY; split <;> omega
  · obtain ⟨x, h1, h2, h3⟩ := Worth_at hp (halfY p)
    show ¬ 1 < Worth p (halfY p)
    rw [h3]
    have key : ∀ n : Nat, (n : Int) ≤ p.m → (p.stock + p.kerf + 1) * sumTo (fun k => x k * halfY p k) n ≤ 2 * sumTo (fun k => x k * (p.L k + p.kerf)) n := by
      intro n
      induction n with
      | zero => intro _; simp [sumTo]
      | succ n ih =>
        intro hn
        have q1 := ih (by omega)
        have q2 := sumTo_next (fun k => x k * halfY p k) (i := (n : Int)) (by omega)
        have q3 := sumTo_next (fun k => x k * (p.L k + p.kerf)) (i := (n : Int)) (by omega)
        rw [show ((n : Int) + 1).toNat = n + 1 by omega, Int.toNat_natCast] at q2 q3
        rw [q2, q3, Int.mul_add]
        have hx := h1 n (by omega) (by omega)
        have he := hp.all n (by omega) (by omega)
        unfold Prob.each at he
        have q4 : (p.stock + p.kerf + 1) * (x n * halfY p n) ≤ 2 * (x n * (p.L n + p.kerf)) := by
          unfold halfY
          by_cases hh : p.stock + p.kerf < 2 * (p.L n + p.kerf)
          · rw [if_pos hh, Int.mul_one, Int.mul_comm]
            have := Int.mul_le_mul_of_nonneg_left (show p.stock + p.kerf + 1 ≤ 2 * (p.L n + p.kerf) by omega) hx.1
            have e : x n * (2 * (p.L n + p.kerf)) = 2 * (x n * (p.L n + p.kerf)) := by rw [Int.mul_left_comm]
            omega
          · rw [if_neg hh, Int.mul_zero, Int.mul_zero]
            have := Int.mul_nonneg hx.1 (show 0 ≤ p.L n + p.kerf by omega)
            omega
        omega
    have h4 := key p.m.toNat (by omega)
    have h5 : sumTo (fun k => x k * (p.L k + p.kerf)) p.m.toNat = Used p x p.m.toNat := rfl
    intro hh
    have h6 := Int.mul_le_mul_of_nonneg_left (show 2 ≤ sumTo (fun k => x k * halfY p k) p.m.toNat by omega) (show 0 ≤ p.stock + p.kerf + 1 by omega)
    omega
theorem make_right {p : Prob} (hp : p.Ok) {c : Ct} (h : MakeR p c 0) : ∃ u ml mf s, ColR p u ml mf s 0 ∧ Chk p c.n c.y c.q = 0 ∧ BndOf p c.n c.y c.q = (s.val + s.den - 1).tdiv s.den := by
  obtain ⟨u, ml, mf, s, hu, h1, ⟨h2, _⟩ | ⟨_, rfl⟩⟩ := h
  · exact absurd rfl h2
  · obtain ⟨hM, hW⟩ := h1.okS hu rfl
    have hc : Chk p s.m s.Y s.den = 0 := chk0 hp ⟨hM.d1, hM.d2, fun k k0 k1 => hM.Y k k0 (by have := hM.m; omega)⟩ hM.m (by have := Worth_le hp s.Y; omega)
    refine ⟨u, ml, mf, s, h1, hc, ?_⟩
    rw [bnd_ok hc]
    unfold Bnd
    rw [Tot_sum, hM.bY]
theorem mat_bnd {p : Prob} (hp : p.Ok) : BndOf p (matC p).n (matC p).y (matC p).q = (Used p p.D p.m.toNat + (p.stock + p.kerf) - 1).tdiv (p.stock + p.kerf) := by
  rw [bnd_ok (mat_right hp)]
  unfold Bnd
  rw [Tot_sum]; rfl
theorem offer_ge {p : Prob} {b c b' : Ct} {m m' e : Int} (h : (b', m') = offer p (b, m) c e) : m ≤ m' ∧ (e = 0 → Chk p c.n c.y c.q = 0 → BndOf p c.n c.y c.q ≤ m') ∧ ((b', m') = (b, m) ∨ (Chk p b'.n b'.y b'.q = 0 ∧ BndOf p b'.n b'.y b'.q = m')) := by
  unfold offer at h
  split at h
  · rename_i hh
    injection h with q1 q2
    subst q1 q2
    dsimp only at hh
    exact ⟨by omega, fun _ _ => Int.le_refl _, .inr ⟨hh.2.1, rfl⟩⟩
  · rename_i hh
    injection h with q1 q2
    subst q1 q2
    refine ⟨Int.le_refl _, fun h1 h2 => ?_, .inl rfl⟩
    dsimp only at hh
    by_cases h3 : m' < BndOf p c.n c.y c.q
    · exact absurd ⟨h1, h2, h3⟩ hh
    · omega
theorem best_law {p : Prob} (hp : p.Ok) {c : Ct} {m e : Int} (h : BestR p c m e) : e = 0 ∧ Chk p c.n c.y c.q = 0 ∧ BndOf p c.n c.y c.q = m ∧ BndOf p (matC p).n (matC p).y (matC p).q ≤ m ∧ BndOf p (halfC p).n (halfC p).y (halfC p).q ≤ m ∧ ∀ d, MakeR p d 0 → BndOf p d.n d.y d.q ≤ m := by
  rcases h with ⟨h, _⟩ | ⟨_, he, c1, e1, c2, e2, c3, e3, a1, a2, a3, a4⟩
  · exact absurd hp h
  · obtain ⟨rfl, rfl⟩ : c2 = matC p ∧ e2 = 0 := by rcases a2 with ⟨h, _⟩ | ⟨_, h1, h2⟩; exact absurd hp h; exact ⟨h1, h2⟩
    obtain ⟨rfl, rfl⟩ : c3 = halfC p ∧ e3 = 0 := by rcases a3 with ⟨h, _⟩ | ⟨_, h1, h2⟩; exact absurd hp h; exact ⟨h1, h2⟩
    obtain ⟨x1, k1, hx1⟩ : ∃ x k, (x, k) = offer p (Ct.zer, -1) c1 e1 := ⟨_, _, rfl⟩
    rw [← hx1] at a4
    obtain ⟨x2, k2, hx2⟩ : ∃ x k, (x, k) = offer p (x1, k1) (matC p) 0 := ⟨_, _, rfl⟩
    rw [← hx2] at a4
    obtain ⟨p1, p2, p3⟩ := offer_ge hx1
    obtain ⟨q1, q2, q3⟩ := offer_ge hx2
    obtain ⟨r1, r2, r3⟩ := offer_ge a4
    have hb0 : 0 ≤ BndOf p (matC p).n (matC p).y (matC p).q := by
      rw [mat_bnd hp]
      have hm := hp.m1; have hs := hp.s1; have hk := hp.k1
      have hu : 0 ≤ Used p p.D p.m.toNat := sumTo_nonneg fun k k0 k1 => by
        have he := hp.all k k0 (by omega)
        unfold Prob.each at he
        exact Int.mul_nonneg (by omega) (by omega)
      exact Int.tdiv_nonneg (by omega) (by omega)
    have g2 := q2 rfl (mat_right hp)
    have g3 := r2 rfl (half_right hp)
    have fin : Chk p c.n c.y c.q = 0 ∧ BndOf p c.n c.y c.q = m := by
      rcases r3 with r3 | r3
      · injection r3 with z1 z2
        subst z1 z2
        rcases q3 with q3 | q3
        · injection q3 with z1 z2
          subst z1 z2
          rcases p3 with p3 | p3
          · injection p3 with z1 z2
            omega
          · exact p3
        · exact q3
      · exact r3
    refine ⟨he, fin.1, fin.2, by omega, g3, fun d hd => ?_⟩
    obtain ⟨rfl, rfl⟩ := a1.same hd
    obtain ⟨_, _, _, _, _, h8, _⟩ := make_right hp hd
    have := p2 rfl h8
    omega

set_option maxHeartbeats 4000000 in
set_option maxRecDepth 20000 in
theorem law_dright {vL vD : Value} {p : Prob} (w0 : World) (h : PAt w0 vL vD p) :
    Calls Tryz.prog 5 [.agg #[vL, vD, .int .i64 p.stock, .int .i64 p.kerf]].toArray w0 fun e w => ∃ v, e = .returned v ∧ v = .bool true ∧ Sat w0 w [] := by
  have hm := h.L.slh.n0; have hm1 := h.L.slh.n1; have hd := h.D.slh.n0; have hd1 := h.D.slh.n1; have hs := h.is; have hk := h.ik
  refine zenG Tryz.func5 Tryz.ntmps5 fun w hS => ?_
  refine zsr ?_
  refine zla (xbx (cs := [_, _, _, _]) hS) ?_; rintro _ w ⟨g1, rfl, hS⟩
  replace hS := hS.n1
  refine zlv xas ?_
  refine zlt <| zsq <| zsr ?_
  refine zlc (xc0 cl_15) (c_awake32 w) ?_; rintro _ w ⟨rfl, hS'⟩
  replace hS := hS.cmp hS'; clear hS'
  refine zs2 ?_
  refine zlv (xls 0 st_24 hS) ?_
  refine zlc (xc0 cl_10) (c_few28 (p := p) w (h.below hS.below)) ?_; rintro _ w ⟨rfl, hS'⟩
  replace hS := hS.cmp hS'; clear hS'
  refine zs3 ?_
  refine zlb 32 ?_ ?_ <;> intro hc
  ·
   iterate 3 refine zlo ?_
   refine zlv xpt ?_
   refine zlt <| zct <| zsr ?_
   refine zlc (xc0 cl_15) (c_awake32 w) ?_; rintro _ w ⟨rfl, hS'⟩
   replace hS := hS.cmp hS'; clear hS'
   refine zlv xas ?_
   refine zlt <| zrt <| ztr <| zf1 ⟨_, rfl, ?_⟩
   exact ⟨rfl, hS.nl⟩
  refine zlv (xls 0 st_24 hS) ?_
  refine zlc (xc0 cl_25) (c_rvalid28 (p := p) w (h.below hS.below)) ?_; rintro _ w ⟨rfl, hS'⟩
  replace hS := hS.cmp hS'; clear hS'
  refine zs2 ?_
  refine zlt ?_
  refine zcif ?_ ?_ <;> intro hc
  ·
   refine zsr ?_
   refine zlc (xc0 cl_15) (c_awake32 w) ?_; rintro _ w ⟨rfl, hS'⟩
   replace hS := hS.cmp hS'; clear hS'
   refine zlv xas ?_
   refine zlt <| zrt <| ztr <| zf1 ⟨_, rfl, ?_⟩
   exact ⟨rfl, hS.nl⟩
  refine zsk <| ztn <| zsr ?_
  refine zlv (xls 0 st_24 hS) ?_
  have hfew : Few28 p := Classical.not_not.1 ‹¬ ¬ (Few28 p)›
  have hp : p.Ok := by first | assumption | exact Classical.not_not.1 ‹_›
  have hpm := hp.m1; have hpm2 := hp.m2; have hpd := hp.d; have hs1 := hp.s1; have hs2 := hp.s2; have hk1 := hp.k1; have hk2 := hp.k2
  have hua := fun k (k0 : 0 ≤ k) (k1 : k < p.m) => (show 0 ≤ p.D k ∧ p.D k ≤ 2000 by have := (hfew.2.2 hp).1 k k0 (by omega); have he := hp.all k k0 k1; unfold Prob.each at he; omega)
  refine zla (xal (cs := [_, _, _, _]) el_35 hS) ?_; rintro _ w ⟨g2, rfl, hS⟩
  replace hS := hS.n2
  refine zle (xsw 1 st_35 hS (hd := (ones_cons h.L.slh.one (ones_cons h.D.slh.one (ones_cons rfl (ones_cons rfl ones_nil)))))) ?_; clear hS; rintro w hS
  replace hS := hS.n2
  refine zlz ?_
  refine zlv (xls 1 st_35 hS) ?_
  refine zlc (xc0 cl_18) (c_matc32 (p := p) w (h.below hS.below)) ?_; rintro _ w ⟨vcct1, cct1, ect1, rfl, hctct1, hvcct1, hS'⟩
  replace hS : Sat w0 w [.blk g1 [vL, vD, .int .i64 p.stock, .int .i64 p.kerf], .blk g2 [vL, vD, .int .i64 p.stock, .int .i64 p.kerf], .own vcct1 1 3 cct1.n (ints cct1.y)] := hS.comp hS'; clear hS'
  obtain ⟨hcm, hem⟩ : cct1 = matC p ∧ ect1 = 0 := by rcases hctct1 with ⟨h9, _⟩ | ⟨_, h8, h9⟩; exact absurd hp h9; exact ⟨h8, h9⟩
  have hq1 := hctct1.q
  refine zs3 ?_
  refine zla (xal (cs := [_, _]) el_44 hS) ?_; rintro _ w ⟨g3, rfl, hS⟩
  replace hS := hS.n4
  refine zle (xsw 3 st_44 hS (hd := (ones_cons hvcct1.one (ones_cons rfl ones_nil)))) ?_; clear hS; rintro w hS
  replace hS := hS.n4
  refine zlv xas ?_
  refine zlz ?_
  refine zlv (xls 1 st_35 hS) ?_
  refine zlv (xls 3 st_44 hS) ?_
  refine zlc (xc0 cl_26) (c_bound (p := p) w (h.below hS.below) (hS.rowN 2 rfl) (by omega)) ?_; rintro _ w ⟨rfl, hS'⟩
  replace hS := hS.cmp hS'; clear hS'
  have hk1 : Chk p cct1.n cct1.y cct1.q = 0 := by rw [hcm]; exact mat_right hp
  have hb1 : BndOf p cct1.n cct1.y cct1.q = (Used p p.D p.m.toNat + (p.stock + p.kerf) - 1).tdiv (p.stock + p.kerf) := by rw [hcm]; exact mat_bnd hp
  refine zs5 ?_
  refine zlz ?_
  refine zlv (xls 0 st_24 hS) ?_
  refine zlc (xc0 cl_27) (c_mat28 (p := p) w (h.below hS.below) (fun _ => hua)) ?_; rintro _ w ⟨mmt1, emt1, rfl, hmt1, hS'⟩
  replace hS := hS.cmp hS'; clear hS'
  have hm2 := (hmt1.resolve_left fun hh => hh.1 hp).2.1
  refine zs5 ?_
  refine zlz ?_
  refine zlv (xls 1 st_35 hS) ?_
  refine zlc (xc0 cl_20) (c_halfc32 (p := p) w (h.below hS.below)) ?_; rintro _ w ⟨vcct2, cct2, ect2, rfl, hctct2, hvcct2, hS'⟩
  replace hS : Sat w0 w [.blk g1 [vL, vD, .int .i64 p.stock, .int .i64 p.kerf], .blk g2 [vL, vD, .int .i64 p.stock, .int .i64 p.kerf], .own vcct1 1 3 cct1.n (ints cct1.y), .blk g3 [vcct1, .int .i64 cct1.q], .own vcct2 1 3 cct2.n (ints cct2.y)] := hS.comp hS'; clear hS'
  obtain ⟨hch, heh⟩ : cct2 = halfC p ∧ ect2 = 0 := by rcases hctct2 with ⟨h9, _⟩ | ⟨_, h8, h9⟩; exact absurd hp h9; exact ⟨h8, h9⟩
  have hq2 := hctct2.q
  refine zs3 ?_
  refine zla (xal (cs := [_, _]) el_44 hS) ?_; rintro _ w ⟨g4, rfl, hS⟩
  replace hS := hS.n6
  refine zle (xsw 5 st_44 hS (hd := (ones_cons hvcct2.one (ones_cons rfl ones_nil)))) ?_; clear hS; rintro w hS
  replace hS := hS.n6
  refine zlv xas ?_
  refine zlz ?_
  refine zlv (xls 1 st_35 hS) ?_
  refine zlv (xls 5 st_44 hS) ?_
  refine zlc (xc0 cl_26) (c_bound (p := p) w (h.below hS.below) (hS.rowN 4 rfl) (by omega)) ?_; rintro _ w ⟨rfl, hS'⟩
  replace hS := hS.cmp hS'; clear hS'
  have hk2 : Chk p cct2.n cct2.y cct2.q = 0 := by rw [hch]; exact half_right hp
  refine zs5 ?_
  refine zlz ?_
  refine zlv (xls 1 st_35 hS) ?_
  refine zlc (xc0 cl_22) (c_best32 (p := p) w (h.below hS.below)) ?_; rintro _ w ⟨vcbs1, cbs1, mbs1, ebs1, rfl, hbsbs1, hvcbs1, hS'⟩
  replace hS : Sat w0 w [.blk g1 [vL, vD, .int .i64 p.stock, .int .i64 p.kerf], .blk g2 [vL, vD, .int .i64 p.stock, .int .i64 p.kerf], .own vcct1 1 3 cct1.n (ints cct1.y), .blk g3 [vcct1, .int .i64 cct1.q], .own vcct2 1 3 cct2.n (ints cct2.y), .blk g4 [vcct2, .int .i64 cct2.q], .own vcbs1 1 3 cbs1.n (ints cbs1.y)] := hS.comp hS'; clear hS'
  obtain ⟨hbe, hbk, hbb, hbm, hbh, hbd⟩ := best_law hp hbsbs1
  rw [← hcm] at hbm
  rw [← hch] at hbh
  have hqb : 0 ≤ cbs1.q ∧ cbs1.q ≤ 1073741824 := by have h9 := (chk_ok hbk).2.1; have := h9.1; have := h9.2.1; omega
  refine zs4 ?_
  refine zla (xal (cs := [_, _]) el_44 hS) ?_; rintro _ w ⟨g5, rfl, hS⟩
  replace hS := hS.n8
  refine zle (xsw 7 st_44 hS (hd := (ones_cons hvcbs1.one (ones_cons rfl ones_nil)))) ?_; clear hS; rintro w hS
  replace hS := hS.n8
  refine zs2 ?_
  refine zlz ?_
  refine zlv (xls 1 st_35 hS) ?_
  refine zlv (xls 7 st_44 hS) ?_
  refine zlc (xc0 cl_26) (c_bound (p := p) w (h.below hS.below) (hS.rowN 6 rfl) (by omega)) ?_; rintro _ w ⟨rfl, hS'⟩
  replace hS := hS.cmp hS'; clear hS'
  refine zs5 ?_
  refine zlt <| zsq <| zsr ?_
  refine zs3 ?_
  refine zlb 80 ?_ ?_ <;> intro hc
  ·
   iterate 3 refine zlo ?_
   refine zs2 ?_
   iterate 2 refine zlo ?_
   refine zs2 ?_
   iterate 2 refine zlo ?_
   refine zs2 ?_
   iterate 2 refine zlo ?_
   refine zs2 ?_
   iterate 3 refine zlo ?_
   refine zs2 ?_
   iterate 3 refine zlo ?_
   refine zs2 ?_
   iterate 3 refine zlo ?_
   refine zlv xpt ?_
   refine zlt <| zct <| zsr ?_
   refine zlv xas ?_
   refine zlt <| zrt <| ztr <| zf1 ⟨_, rfl, ?_⟩
   exfalso; omega
  refine zs5 ?_
  refine zlb 85 ?_ ?_ <;> intro hc
  ·
   iterate 2 refine zlo ?_
   refine zs2 ?_
   iterate 2 refine zlo ?_
   refine zs2 ?_
   iterate 2 refine zlo ?_
   refine zs2 ?_
   iterate 3 refine zlo ?_
   refine zs2 ?_
   iterate 3 refine zlo ?_
   refine zs2 ?_
   iterate 3 refine zlo ?_
   refine zlv xpt ?_
   refine zlt <| zct <| zsr ?_
   refine zlv xas ?_
   refine zlt <| zrt <| ztr <| zf1 ⟨_, rfl, ?_⟩
   exfalso; omega
  refine zs4 ?_
  refine zlb 89 ?_ ?_ <;> intro hc
  ·
   iterate 2 refine zlo ?_
   refine zs2 ?_
   iterate 2 refine zlo ?_
   refine zs2 ?_
   iterate 3 refine zlo ?_
   refine zs2 ?_
   iterate 3 refine zlo ?_
   refine zs2 ?_
   iterate 3 refine zlo ?_
   refine zlv xpt ?_
   refine zlt <| zct <| zsr ?_
   refine zlv xas ?_
   refine zlt <| zrt <| ztr <| zf1 ⟨_, rfl, ?_⟩
   exfalso; omega
  refine zs4 ?_
  refine zlb 93 ?_ ?_ <;> intro hc
  ·
   iterate 2 refine zlo ?_
   refine zs2 ?_
   iterate 3 refine zlo ?_
   refine zs2 ?_
   iterate 3 refine zlo ?_
   refine zs2 ?_
   iterate 3 refine zlo ?_
   refine zlv xpt ?_
   refine zlt <| zct <| zsr ?_
   refine zlv xas ?_
   refine zlt <| zrt <| ztr <| zf1 ⟨_, rfl, ?_⟩
   exfalso; omega
  refine zs4 ?_
  refine zlb 97 ?_ ?_ <;> intro hc
  ·
   iterate 3 refine zlo ?_
   refine zs2 ?_
   iterate 3 refine zlo ?_
   refine zs2 ?_
   iterate 3 refine zlo ?_
   refine zlv xpt ?_
   refine zlt <| zct <| zsr ?_
   refine zlv xas ?_
   refine zlt <| zrt <| ztr <| zf1 ⟨_, rfl, ?_⟩
   exfalso; omega
  refine zs5 ?_
  refine zlb 102 ?_ ?_ <;> intro hc
  ·
   iterate 3 refine zlo ?_
   refine zs2 ?_
   iterate 3 refine zlo ?_
   refine zlv xpt ?_
   refine zlt <| zct <| zsr ?_
   refine zlv xas ?_
   refine zlt <| zrt <| ztr <| zf1 ⟨_, rfl, ?_⟩
   exfalso; omega
  refine zs5 ?_
  refine zlb 107 ?_ ?_ <;> intro hc
  ·
   iterate 3 refine zlo ?_
   refine zlv xpt ?_
   refine zlt <| zct <| zsr ?_
   refine zlv xas ?_
   refine zlt <| zrt <| ztr <| zf1 ⟨_, rfl, ?_⟩
   exfalso; omega
  refine zs4 ?_
  refine zlt ?_
  refine zcif ?_ ?_ <;> intro hc
  ·
   refine zsr ?_
   refine zlv xas ?_
   refine zlt <| zrt <| ztr <| zf1 ⟨_, rfl, ?_⟩
   exfalso; omega
  refine zsk <| ztn <| zsr ?_
  refine zlv (xls 1 st_35 hS) ?_
  refine zlc (xc0 cl_16) (c_make32 (p := p) w (h.below hS.below)) ?_; rintro _ w ⟨vcct3, cct3, ect3, rfl, hctct3, hvcct3, hS'⟩
  replace hS : Sat w0 w [.blk g1 [vL, vD, .int .i64 p.stock, .int .i64 p.kerf], .blk g2 [vL, vD, .int .i64 p.stock, .int .i64 p.kerf], .own vcct1 1 3 cct1.n (ints cct1.y), .blk g3 [vcct1, .int .i64 cct1.q], .own vcct2 1 3 cct2.n (ints cct2.y), .blk g4 [vcct2, .int .i64 cct2.q], .own vcbs1 1 3 cbs1.n (ints cbs1.y), .blk g5 [vcbs1, .int .i64 cbs1.q], .own vcct3 1 3 cct3.n (ints cct3.y)] := hS.comp hS'; clear hS'
  have hq3 := hctct3.q
  refine zs3 ?_
  refine zla (xal (cs := [_, _]) el_44 hS) ?_; rintro _ w ⟨g6, rfl, hS⟩
  replace hS := hS.n10
  refine zle (xsw 9 st_44 hS (hd := (ones_cons hvcct3.one (ones_cons rfl ones_nil)))) ?_; clear hS; rintro w hS
  replace hS := hS.n10
  refine zlv xas ?_
  refine zlz ?_
  refine zlv (xls 0 st_24 hS) ?_
  refine zlc (xc0 cl_12) (c_rcsolve (p := p) w (h.below hS.below)) ?_; rintro _ w ⟨vPcs1, vvcs1, vXcs1, vYcs1, ucs1, mlcs1, mfcs1, scs1, ecs1, rfl, hcocs1, hvPcs1, hvXcs1, hvYcs1, hS'⟩
  replace hS : Sat w0 w [.blk g1 [vL, vD, .int .i64 p.stock, .int .i64 p.kerf], .blk g2 [vL, vD, .int .i64 p.stock, .int .i64 p.kerf], .own vcct1 1 3 cct1.n (ints cct1.y), .blk g3 [vcct1, .int .i64 cct1.q], .own vcct2 1 3 cct2.n (ints cct2.y), .blk g4 [vcct2, .int .i64 cct2.q], .own vcbs1 1 3 cbs1.n (ints cbs1.y), .blk g5 [vcbs1, .int .i64 cbs1.q], .own vcct3 1 3 cct3.n (ints cct3.y), .blk g6 [vcct3, .int .i64 cct3.q], .own vPcs1 1 22 ucs1 vvcs1, .sem (Frame.rows 3 ucs1 vvcs1 mlcs1 mfcs1), .own vXcs1 1 3 scs1.n (ints scs1.X), .own vYcs1 1 3 scs1.m (ints scs1.Y)] := hS.comp hS'; clear hS'
  have hrwcs1 := fun k (k0 : 0 ≤ k) (k1 : k < ucs1) => hS.slhIn 11 rfl k0 k1
  have heq : ect3 = ecs1 := by obtain ⟨_, _, _, _, _, h8, _⟩ := hctct3; exact (ColR.same h8 hcocs1).2.2
  refine zs3 ?_
  refine zla (xal (cs := [_, _, _, _, _]) el_38 hS) ?_; rintro _ w ⟨g7, rfl, hS⟩
  replace hS := hS.n15
  refine zle (xsw 14 st_38 hS (hd := (ones_cons hvPcs1.one (ones_cons hvXcs1.one (ones_cons hvYcs1.one (ones_cons rfl (ones_cons rfl ones_nil))))))) ?_; clear hS; rintro w hS
  replace hS := hS.n15
  refine zlv xas ?_
  refine zlt <| zsq <| zsr ?_
  refine zs4 ?_
  refine zlb 125 ?_ ?_ <;> intro hc
  ·
   iterate 2 refine zlo ?_
   refine zlv xpt ?_
   refine zlt <| zct <| zsr ?_
   refine zs4 ?_
   refine zlt <| zrt <| ztr <| zf1 ⟨_, rfl, ?_⟩
   exact ⟨(true_B (by omega)).symm, hS.nl⟩
  refine zs3 ?_
  refine zlt ?_
  refine zcif ?_ ?_ <;> intro hc
  ·
   refine zsr ?_
   refine zs2 ?_
   refine zlv (xkt xeql) ?_
   refine zlv xas ?_
   refine zlt <| zrt <| ztr <| zf1 ⟨_, rfl, ?_⟩
   exact ⟨rfl, hS.nl⟩
  refine zsk <| ztn <| zsr ?_
  refine zlv (xls 1 st_35 hS) ?_
  refine zlv (xls 9 st_44 hS) ?_
  refine zlc (xc0 cl_26) (c_bound (p := p) w (h.below hS.below) (hS.rowN 8 rfl) (by omega)) ?_; rintro _ w ⟨rfl, hS'⟩
  replace hS := hS.cmp hS'; clear hS'
  have he0 : ect3 = 0 := by omega
  have hc3 : MakeR p cct3 0 := by rw [← he0]; exact hctct3
  obtain ⟨u9, ml9, mf9, s9, h91, h92, h93⟩ := make_right hp hc3
  have hs9 : s9 = scs1 := (ColR.same h91 hcocs1).2.1
  rw [hs9] at h93
  have hbd3 := hbd _ hc3
  have hmk := (hcocs1.okS hvPcs1.n0 (by omega)).1
  have hd1 := hmk.d1; have hd2 := hmk.d2; have hv1 := hmk.v
  have hq9 := quo_facts (a := scs1.val + scs1.den - 1) (b := scs1.den) (by omega) (by omega)
  refine zs5 ?_
  refine zlz ?_
  refine zs3 ?_
  refine zlb 140 ?_ ?_ <;> intro hc
  ·
   refine zlv xmv ?_
   refine zlv (xfb 1 fd_38_1) ?_
   refine zlv (xfb 3 fd_36_2) ?_
   refine zlv (xlb 14 pl_3 hS) ?_
   refine zlv (xfb 1 fd_38_1) ?_
   refine zlv (xfb 4 fd_36_3) ?_
   refine zlv (xlb 14 pl_3 hS) ?_
   refine zlv (xadd (r := scs1.val + scs1.den)) ?_
   refine zlv (xsub (r := scs1.val + scs1.den - 1)) ?_
   refine zlv (xfb 1 fd_38_1) ?_
   refine zlv (xfb 4 fd_36_3) ?_
   refine zlv (xlb 14 pl_3 hS) ?_
   refine zlv (xquo (r := (Int.tdiv (scs1.val + scs1.den - 1) scs1.den))) ?_
   refine zs3 ?_
   refine zlb 156 ?_ ?_ <;> intro hc
   ·
    refine zs5 ?_
    refine zlt <| zrt <| zf1 ⟨_, rfl, ?_⟩
    exact ⟨(true_B (by omega)).symm, hS.nl⟩
   iterate 3 refine zlo ?_
   refine zs2 ?_
   refine zlt <| zrt <| zf1 ⟨_, rfl, ?_⟩
   exfalso; omega
  iterate 14 refine zlo ?_
  refine zs2 ?_
  iterate 3 refine zlo ?_
  refine zs2 ?_
  refine zlt <| zrt <| zf1 ⟨_, rfl, ?_⟩
  exfalso; omega

end Go.Proofs.YtopmifmfecfaaaaGreat
