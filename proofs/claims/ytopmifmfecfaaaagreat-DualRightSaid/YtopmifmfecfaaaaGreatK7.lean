/- The walk of Solve, of column. -/
import Derived.Test.YtopmifmfecfaaaaGreatGv
import Derived.Test.YtopmifmfecfaaaaGreatK3
import Derived.Test.YtopmifmfecfaaaaGreatGk
import Derived.Test.YtopmifmfecfaaaaGreatGh
namespace Go.Proofs.YtopmifmfecfaaaaGreat
open Go Go.RowKit Go.Proofs.Gw
set_option linter.unusedVariables false

theorem cl_113 : calledT Tryz.prog 113 = true := by kernel_rfl
theorem cl_46 : calledT Tryz.prog 46 = true := by kernel_rfl
theorem cl_48 : calledT Tryz.prog 48 = true := by kernel_rfl
theorem cl_79 : calledT Tryz.prog 79 = true := by kernel_rfl
theorem cl_80 : calledT Tryz.prog 80 = true := by kernel_rfl
theorem cl_81 : calledT Tryz.prog 81 = true := by kernel_rfl
theorem cl_82 : calledT Tryz.prog 82 = true := by kernel_rfl
theorem cl_83 : calledT Tryz.prog 83 = true := by kernel_rfl
theorem cl_84 : calledT Tryz.prog 84 = true := by kernel_rfl
theorem el_31 : elemT Tryz.prog 31 = some (.agg #[.slice none 0 0, .slice none 0 0, .slice none 0 0, .int .i64 0, .int .i64 0], 5, 88) := by kernel_rfl
theorem el_85 : elemT Tryz.prog 85 = some (.agg #[.slice none 0 0, .slice none 0 0, .slice none 0 0, .int .i64 0, .int .i64 0, .int .i64 0], 6, 96) := by kernel_rfl
theorem fd_31_1 : fieldT Tryz.prog 31 1 = some 1 := by kernel_rfl
theorem fd_85_0 : fieldT Tryz.prog 85 0 = some 0 := by kernel_rfl
theorem fd_85_1 : fieldT Tryz.prog 85 1 = some 5 := by kernel_rfl
theorem pl_32 : plainT Tryz.prog 32 = true := by kernel_rfl
theorem st_31 : structT Tryz.prog 31 = some 5 := by kernel_rfl
theorem st_85 : structT Tryz.prog 85 = some 6 := by kernel_rfl
def outP (n : Int) : Prop := n < 0 ∨ 1073741824 < n
def PrcL (p : Prob) (n : Int) (y : Int → Int) : Prop := p.Ok ∧ n = p.m ∧ Priced p y
/-- The items of a problem, by prices. -/
def itsOf (p : Prob) (y : Int → Int) : Its := ⟨p.m, fun i => p.L i + p.kerf, y, p.D⟩
theorem its_ok {p : Prob} {y : Int → Int} (hp : p.Ok) (hy : Priced p y) : (itsOf p y).Ok (p.stock + p.kerf) := by
  have h1 := hp.m2; have h2 := hp.s1; have h3 := hp.s2; have h4 := hp.k1; have h5 := hp.k2
  refine ⟨h1, by omega, by omega, fun i i0 i1 => ?_⟩
  have h6 := hp.all i i0 i1
  have h7 := hy i i0 i1
  unfold Prob.each at h6
  show eachI (p.L i + p.kerf) (y i) (p.D i)
  unfold eachI; omega
/-- What the dearest pattern is worth; that pattern. -/
def WC (p : Prob) (y : Int → Int) : Int := KI (itsOf p y) 0 (p.stock + p.kerf)
noncomputable def aC (p : Prob) (y : Int → Int) : Int → Int := @dite _ (∃ x, KX (itsOf p y) (p.stock + p.kerf) x p.m) (Classical.propDecidable _) (fun h => Classical.choose h) fun _ _ => 0
theorem aC_eq {p : Prob} (hm : 0 ≤ p.m) {y x : Int → Int} (h : KX (itsOf p y) (p.stock + p.kerf) x p.m) : ∀ i, 0 ≤ i → i < p.m → x i = aC p y i := by
  have hex : ∃ x, KX (itsOf p y) (p.stock + p.kerf) x p.m := ⟨x, h⟩
  have h2 := Classical.choose_spec hex
  unfold aC
  rw [dif_pos hex]
  intro i i0 i1
  exact KX.same (n := p.m.toNat) (by rw [Int.toNat_of_nonneg hm]; exact h) (by rw [Int.toNat_of_nonneg hm]; exact h2) i i0 (by omega)
def PriceR (p : Prob) (n : Int) (y : Int → Int) (na : Int) (a : Int → Int) (worth e : Int) : Prop := (¬ PrcL p n y ∧ na = 0 ∧ worth = 0 ∧ e = 1) ∨ (PrcL p n y ∧ na = p.m ∧ a = aC p y ∧ (∃ x, KX (itsOf p y) (p.stock + p.kerf) x p.m) ∧ worth = WC p y ∧ e = 0)

set_option maxRecDepth 20000 in
theorem c_prc1 {x : Int} (w0 : World) :
    Calls Tryz.prog 113 [.int .i64 x].toArray w0 fun e w => ∃ v, e = .returned v ∧ v = B (outP x) ∧ Sat w0 w [] := by
  refine zenG Tryz.func113 Tryz.ntmps113 fun w hS => ?_
  refine zsr ?_
  refine zlv xas ?_
  refine zlz ?_
  refine zs3 ?_
  refine zlb 5 ?_ ?_ <;> intro hc
  ·
   iterate 2 refine zlo ?_
   refine zs2 ?_
   refine zlt <| zrt <| zf1 ⟨_, rfl, ?_⟩
   exact ⟨true_B (by unfold outP; omega), hS⟩
  refine zs4 ?_
  refine zlt <| zrt <| zf1 ⟨_, rfl, ?_⟩
  exact ⟨B_congr (by unfold outP; omega), hS⟩

theorem c_ixprc {v : Value} {n : Int} {f : Int → Int} (w0 : World) (hR : Row w0 v 1 n (ints f)) :
    Calls Tryz.prog 95 [v, .func (.func 113) #[] #[]].toArray w0 fun e w => ∃ v, e = .returned v ∧ ∃ r : Int, v = .int .i64 r ∧ ((r = -1 ∧ ∀ k, 0 ≤ k → k < n → ¬ (outP (f k))) ∨ (0 ≤ r ∧ r < n ∧ (outP (f r)))) ∧ Sat w0 w [] := by
  have hn := hR.slh.n0; have hn1 := hR.slh.n1
  refine zenG Tryz.func95 Tryz.ntmps95 fun w hS => ?_
  refine zsr ?_
  refine zlv xas ?_
  refine zlt <| zsq <| zsr ?_
  refine zlv xmv ?_
  refine zlv (xln sl_22 hR.slh) ?_
  refine zlv xmv ?_
  refine zlt <| zbk <| zlp (fun mm M w => ∃ (i : Int), mm = ((n - i).toNat) ∧ (0 ≤ i) ∧ (i ≤ n) ∧ (∀ k, 0 ≤ k → k < i → ¬ (outP (f k))) ∧ M = [(0, v), (1, .func (.func 113) #[] #[]), (7, .int .i64 n), (8, .int .i64 i)] ∧ Sat w0 w []) ⟨0, rfl, (by omega), (by omega), ?_, rfl, hS⟩ ?_
  ·
   intro k h0 h1; omega
  clear hS w
  rintro mm M w ⟨i, rfl, h0, h1, hall, rfl, hS⟩
  refine zsr ?_
  refine zlv xlss ?_
  refine zlt <| zsq ?_
  refine zcif ?_ ?_ <;> intro hc
  ·
   refine zsk <| ztn <| zsq <| zbk <| zsr ?_
   refine zs2 ?_
   refine zlz ?_
   refine zs3 ?_
   refine zlv (xix (kk := i) sl_22 hR.slh) ?_
   refine zlv (xlr (u := .int .i64 (f i)) pl_3 (hR.below hS.below)) ?_
   refine zlc (xc0 cl_113) (c_prc1 (x := (f i)) w) ?_; rintro _ w ⟨rfl, hS'⟩
   replace hS := hS.cmp hS'; clear hS'
   refine zlt ?_
   refine zcif ?_ ?_ <;> intro hc
   ·
    refine zsr ?_
    refine zs2 ?_
    refine zlt <| zrt <| zbr <| ztr <| ztr <| zbr <| ztr <| zf1 ⟨_, rfl, ?_⟩
    exact ⟨i, rfl, .inr ⟨by omega, by omega, ‹outP (f i)›⟩, hS⟩
   refine zsk <| zbn <| ztn <| zrg ?_
   refine zlv (xadd (r := i + 1)) ?_
   refine zlv xmv ?_
   refine zln <| zlq ⟨i + 1, rfl, (by omega), (by omega), ?_, rfl, hS⟩
   ·
    intro k h0' h1'; rcases Int.lt_or_eq_of_le (show k ≤ i by omega) with hk | hk; exact hall k h0' hk; rw [hk]; assumption
  refine zxt <| ztx <| ztx <| zbh <| ztn <| zsr ?_
  refine zlv xas ?_
  refine zlt <| zrt <| zf1 ⟨_, rfl, ?_⟩
  exact ⟨-1, rfl, .inl ⟨rfl, fun k h0 h1 => hall k h0 (by omega)⟩, hS⟩

theorem c_coprc {v : Value} {n : Int} {f : Int → Int} (w0 : World) (hR : Row w0 v 1 n (ints f)) :
    Calls Tryz.prog 104 [v, .func (.func 113) #[] #[]].toArray w0 fun e w => ∃ v, e = .returned v ∧ v = B (∃ k, 0 ≤ k ∧ k < n ∧ (outP (f k))) ∧ Sat w0 w [] := by
  refine zenG Tryz.func104 Tryz.ntmps104 fun w hS => ?_
  refine zsr ?_
  refine zlv xas ?_
  refine zlz ?_
  refine zs2 ?_
  refine zlc (xc0 cl_95) (c_ixprc w (hR.below hS.below)) ?_; rintro _ w ⟨r1, rfl, hr1, hS'⟩
  replace hS := hS.cmp hS'; clear hS'
  refine zs2 ?_
  refine zlt <| zrt <| zf1 ⟨_, rfl, ?_⟩
  exact ⟨B_congr (by
   rcases hr1 with ⟨h1, h2⟩ | ⟨h1, h2, h3⟩
   · exact ⟨fun h => by omega, fun ⟨k, h4, h5, h6⟩ => absurd h6 (h2 k h4 h5)⟩
   · exact ⟨fun _ => ⟨_, h1, h2, h3⟩, fun _ => h1⟩), hS⟩

set_option maxRecDepth 20000 in
theorem c_prices {vL vD : Value} {p : Prob} {vY : Value} {n : Int} {y : Int → Int} (w0 : World) (h : PAt w0 vL vD p) (hY : Row w0 vY 1 n (ints y)) :
    Calls Tryz.prog 79 [.agg #[vL, vD, .int .i64 p.stock, .int .i64 p.kerf], vY].toArray w0 fun e w => ∃ v, e = .returned v ∧ v = B (PrcL p n y) ∧ Sat w0 w [] := by
  have hm := h.L.slh.n0; have hm1 := h.L.slh.n1; have hd := h.D.slh.n0; have hd1 := h.D.slh.n1; have hs := h.is; have hk := h.ik
  have hn0 := hY.slh.n0; have hn1 := hY.slh.n1
  refine zenG Tryz.func79 Tryz.ntmps79 fun w hS => ?_
  refine zsr ?_
  refine zla (xbx (cs := [_, _, _, _]) hS) ?_; rintro _ w ⟨g1, rfl, hS⟩
  replace hS := hS.n1
  refine zlv xas ?_
  refine zlz ?_
  refine zlv (xls 0 st_35 hS) ?_
  refine zlc (xc0 cl_47) (c_pvalid (p := p) w (h.below hS.below)) ?_; rintro _ w ⟨rfl, hS'⟩
  replace hS := hS.cmp hS'; clear hS'
  refine zlv xmv ?_
  refine zlb 7 ?_ ?_ <;> intro hc
  ·
   refine zlv xmv ?_
   refine zlv (xln sl_22 hY.slh) ?_
   refine zlv (xfb 0 fd_35_0) ?_
   refine zlv (xlb 0 pl_22 hS) ?_
   refine zlv (xln sl_22 h.L.slh) ?_
   refine zs3 ?_
   refine zlb 15 ?_ ?_ <;> intro hc
   ·
    refine zlv xmv ?_
    refine zlc (xc0 cl_104) (c_coprc (n := n) (f := y) w (hY.below hS.below)) ?_; rintro _ w ⟨rfl, hS'⟩
    replace hS := hS.cmp hS'; clear hS'
    refine zs3 ?_
    refine zlt <| zrt <| zf1 ⟨_, rfl, ?_⟩
    exact ⟨B_congr (by exact ⟨fun hx => ⟨by assumption, by omega, fun k k0 k1 => by have : ¬ outP (y k) := fun hh => hx ⟨k, k0, by omega, hh⟩; unfold outP at this; omega⟩, fun ⟨h1, h2, h3⟩ ⟨k, k0, k1, hk⟩ => by have := h3 k k0 (by omega); unfold outP at hk; omega⟩), hS.nl⟩
   iterate 3 refine zlo ?_
   refine zs2 ?_
   refine zlt <| zrt <| zf1 ⟨_, rfl, ?_⟩
   exact ⟨false_B (by rintro ⟨h1, h2, h3⟩; first | exact absurd h1 ‹_› | omega), hS.nl⟩
  iterate 6 refine zlo ?_
  refine zs2 ?_
  iterate 3 refine zlo ?_
  refine zs2 ?_
  refine zlt <| zrt <| zf1 ⟨_, rfl, ?_⟩
  exact ⟨false_B (by rintro ⟨h1, h2, h3⟩; first | exact absurd h1 ‹_› | omega), hS.nl⟩

set_option maxRecDepth 20000 in
theorem c_rpriced {vL vD : Value} {p : Prob} {vY : Value} {n : Int} {y : Int → Int} (w0 : World) (h : PAt w0 vL vD p) (hY : Row w0 vY 1 n (ints y)) :
    Calls Tryz.prog 88 [.agg #[vL, vD, .int .i64 p.stock, .int .i64 p.kerf], vY].toArray w0 fun e w => ∃ v, e = .returned v ∧ v = B (PrcL p n y) ∧ Sat w0 w [] := by
  have hm := h.L.slh.n0; have hm1 := h.L.slh.n1; have hd := h.D.slh.n0; have hd1 := h.D.slh.n1; have hs := h.is; have hk := h.ik
  have hn0 := hY.slh.n0; have hn1 := hY.slh.n1
  refine zenG Tryz.func88 Tryz.ntmps88 fun w hS => ?_
  refine zsr ?_
  refine zla (xbx (cs := [_, _, _, _]) hS) ?_; rintro _ w ⟨g1, rfl, hS⟩
  replace hS := hS.n1
  refine zlv xas ?_
  refine zlt <| zsq <| zsr ?_
  refine zlv (xls 0 st_24 hS) ?_
  refine zlc (xc0 cl_25) (c_rvalid28 (p := p) w (h.below hS.below)) ?_; rintro _ w ⟨rfl, hS'⟩
  replace hS := hS.cmp hS'; clear hS'
  refine zs2 ?_
  refine zlb 9 ?_ ?_ <;> intro hc
  ·
   iterate 6 refine zlo ?_
   refine zlv xpt ?_
   refine zlt <| zct <| zsr ?_
   refine zlv xas ?_
   refine zlt <| zrt <| ztr <| zf1 ⟨_, rfl, ?_⟩
   exact ⟨false_B (by rintro ⟨h1, h2, h3⟩; first | exact absurd h1 ‹_› | omega | (have := h3 i h0 (by omega); omega)), hS.nl⟩
  refine zlv xmv ?_
  refine zlv (xln sl_22 hY.slh) ?_
  refine zlv (xfb 0 fd_24_0) ?_
  refine zlv (xlb 0 pl_22 hS) ?_
  refine zlv (xln sl_22 h.L.slh) ?_
  refine zs2 ?_
  refine zlt ?_
  refine zcif ?_ ?_ <;> intro hc
  ·
   refine zsr ?_
   refine zlv xas ?_
   refine zlt <| zrt <| ztr <| zf1 ⟨_, rfl, ?_⟩
   exact ⟨false_B (by rintro ⟨h1, h2, h3⟩; first | exact absurd h1 ‹_› | omega | (have := h3 i h0 (by omega); omega)), hS.nl⟩
  refine zsk <| ztn <| zsq <| zsr ?_
  refine zlv xas ?_
  refine zlt <| zbk <| zlp (fun mm M w => ∃ (i : Int), mm = ((n - i).toNat) ∧ (0 ≤ i) ∧ (i ≤ n) ∧ (∀ k, 0 ≤ k → k < i → 0 ≤ y k ∧ y k ≤ 1073741824) ∧ M = [(1, vY), (5, .int .i64 i)] ∧ Sat w0 w [.blk g1 [vL, vD, .int .i64 p.stock, .int .i64 p.kerf]]) ⟨0, rfl, (by omega), (by omega), ?_, rfl, hS⟩ ?_
  ·
   intro k h0 h1; omega
  clear hS w
  rintro mm M w ⟨i, rfl, h0, h1, hall, rfl, hS⟩
  refine zsq <| zsr ?_
  refine zs2 ?_
  refine zlv (xln sl_22 hY.slh) ?_
  refine zlv xlss ?_
  refine zlt ?_
  refine zcif ?_ ?_ <;> intro hc
  ·
   refine zsk <| ztn <| zsq <| zbk <| zsr ?_
   refine zs2 ?_
   refine zlv (xix (kk := i) sl_22 hY.slh) ?_
   refine zlv (xlr (u := .int .i64 (y i)) pl_3 (hY.below hS.below)) ?_
   refine zs2 ?_
   refine zlb 28 ?_ ?_ <;> intro hc
   ·
    iterate 5 refine zlo ?_
    refine zlv xpt ?_
    refine zlt <| zct <| zsr ?_
    refine zlv xas ?_
    refine zlt <| zrt <| zbr <| ztr <| ztr <| zbr <| ztr <| zf1 ⟨_, rfl, ?_⟩
    exact ⟨false_B (by rintro ⟨h1, h2, h3⟩; first | exact absurd h1 ‹_› | omega | (have := h3 i h0 (by omega); omega)), hS.nl⟩
   refine zs2 ?_
   refine zlv (xix (kk := i) sl_22 hY.slh) ?_
   refine zlv (xlr (u := .int .i64 (y i)) pl_3 (hY.below hS.below)) ?_
   refine zs2 ?_
   refine zlt ?_
   refine zcif ?_ ?_ <;> intro hc
   ·
    refine zsr ?_
    refine zlv xas ?_
    refine zlt <| zrt <| zbr <| ztr <| ztr <| zbr <| ztr <| zf1 ⟨_, rfl, ?_⟩
    exact ⟨false_B (by rintro ⟨h1, h2, h3⟩; first | exact absurd h1 ‹_› | omega | (have := h3 i h0 (by omega); omega)), hS.nl⟩
   refine zsk <| zbn <| ztn <| zrg ?_
   refine zlv xmv ?_
   refine zlv (xadd (r := i + 1)) ?_
   refine zlv xas ?_
   refine zln <| zlq ⟨i + 1, rfl, (by omega), (by omega), ?_, rfl, hS⟩
   ·
    intro k h0' h1'; rcases Int.lt_or_eq_of_le (show k ≤ i by omega) with hk | hk; exact hall k h0' hk; rw [hk]; omega
  refine zxt <| ztx <| ztx <| zbh <| ztn <| zsr ?_
  refine zlv xas ?_
  refine zlt <| zrt <| zf1 ⟨_, rfl, ?_⟩
  exact ⟨true_B (by exact ⟨by first | assumption | exact Classical.not_not.1 ‹_›, by omega, fun k k0 k1 => hall k k0 (by omega)⟩), hS.nl⟩

set_option maxRecDepth 20000 in
theorem c_price {vL vD : Value} {p : Prob} {vY : Value} {n : Int} {y : Int → Int} (w0 : World) (h : PAt w0 vL vD p) (hY : Row w0 vY 1 n (ints y)) :
    Calls Tryz.prog 46 [.agg #[vL, vD, .int .i64 p.stock, .int .i64 p.kerf], vY].toArray w0 fun e w => ∃ v, e = .returned v ∧ ∃ r na a worth e, v = .tuple #[r, .int .i64 worth, .int .i64 e] ∧ PriceR p n y na a worth e ∧ Slh r na ∧ Sat w0 w [.own r 1 3 na (ints a)] := by
  have hm := h.L.slh.n0; have hm1 := h.L.slh.n1; have hd := h.D.slh.n0; have hd1 := h.D.slh.n1; have hs := h.is; have hk := h.ik
  have hn0 := hY.slh.n0; have hn1 := hY.slh.n1
  refine zenG Tryz.func46 Tryz.ntmps46 fun w hS => ?_
  refine zsr ?_
  refine zla (xbx (cs := [_, _, _, _]) hS) ?_; rintro _ w ⟨g1, rfl, hS⟩
  replace hS := hS.n1
  refine zs3 ?_
  refine zlt <| zsq <| zsr ?_
  refine zlv (xls 0 st_35 hS) ?_
  refine zlv xmv ?_
  refine zlc (xc0 cl_79) (c_prices (p := p) (n := n) (y := y) w (h.below hS.below) (hY.below hS.below)) ?_; rintro _ w ⟨rfl, hS'⟩
  replace hS := hS.cmp hS'; clear hS'
  refine zlv xnot ?_
  refine zlt ?_
  refine zcif ?_ ?_ <;> intro hc
  ·
   refine zsr ?_
   refine zs3 ?_
   refine zlt <| zrt <| ztr <| zf3 ⟨_, rfl, ?_⟩
   exact ⟨_, 0, fun _ => 0, 0, 1, rfl, .inl ⟨‹¬ PrcL p n y›, rfl, rfl, rfl⟩, slh_nil, (hS.addnil 1 3 (ints fun _ => 0)).pk [1]⟩
  refine zsk <| ztn <| zsr ?_
  refine zlv xas ?_
  refine zlt <| zsq <| zsr ?_
  refine zlv (xfb 0 fd_35_0) ?_
  refine zlv (xlb 0 pl_22 hS) ?_
  refine zlv (xln sl_22 h.L.slh) ?_
  refine zlv xmv ?_
  refine zlt <| zbk ?_
  have hpr : PrcL p n y := by first | assumption | exact Classical.not_not.1 ‹_›
  obtain ⟨hok, hnm, hyp⟩ := id hpr
  have hs1 := hok.s1; have hs2 := hok.s2; have hk1 := hok.k1; have hk2 := hok.k2; have hm2 := hok.m2; have hmd := hok.d
  replace hS := hS.addnil 3 125 (dcells (fun _ => 0) (fun _ => 0) (fun _ => 0))
  replace hS := hS.n2
  refine zlp (fun mm M w => ∃ (nC : Int) (fS : Int → Int) (fV : Int → Int) (fM : Int → Int) (i : Int) (wC : Value), mm = ((p.m - i).toNat) ∧ (0 ≤ i) ∧ (i ≤ p.m) ∧ (nC = i) ∧ (∀ k, 0 ≤ k → k < i → fS k = (itsOf p y).S k ∧ fV k = (itsOf p y).V k ∧ fM k = (itsOf p y).M k) ∧ (Slh wC nC) ∧ M = [(1, vY), (2, .pointer (some ⟨g1, 0, none⟩)), (4, .slice none 0 0), (5, .int .i64 0), (6, .int .i64 0), (7, wC), (15, vL), (16, .int .i64 p.m), (17, .int .i64 i)] ∧ Sat w0 w [.blk g1 [vL, vD, .int .i64 p.stock, .int .i64 p.kerf], .own wC 3 125 nC (dcells fS fV fM)]) ⟨0, (fun _ => 0), (fun _ => 0), (fun _ => 0), 0, (.slice none 0 0), rfl, (by omega), (by omega), (by omega), ?_, ?_, rfl, hS⟩ ?_
  ·
   intro k k0 k1; omega
  ·
   exact slh_nil
  clear hS w
  rintro mm M w ⟨nC, fS, fV, fM, i, wC, rfl, h0, h1, hnC, hcc, hwC, rfl, hS⟩
  refine zsr ?_
  refine zlv xlss ?_
  refine zlt <| zsq ?_
  refine zcif ?_ ?_ <;> intro hc
  ·
   refine zsk <| ztn <| zsq <| zbk <| zsr ?_
   refine zlv xmv ?_
   refine zlv (xix (kk := i) sl_22 h.L.slh) ?_
   refine zlv (xlr (u := .int .i64 (p.L i)) pl_3 (h.L.below hS.below)) ?_
   have hbv := h.iL i
   have he := hok.all i h0 (by omega); unfold Prob.each at he
   refine zs2 ?_
   refine zlt ?_
   refine zdst [0] [0] 1000 mx_ hS ?_; clear hS; intro w hS
   refine zdv 0 (fun _ => xmv) ?_
   refine zdv 1 (fun _ => xmv) ?_
   refine zdv 2 (fun _ => (xfb 3 fd_35_3)) ?_
   refine zdla 3 (fun w hS => (xlb 0 pl_3 hS)) ?_
   refine zdv 4 (fun _ => (xadd (r := p.L i + p.kerf))) ?_
   refine zdv 5 (fun _ => xmv) ?_
   refine zdv 6 (fun _ => xmv) ?_
   refine zdv 7 (fun _ => (xix (kk := i) sl_22 hY.slh)) ?_
   refine zdla 8 (fun w hS => (xlr (u := .int .i64 (y i)) pl_3 (hY.below hS.below))) ?_
   refine zdv 9 (fun _ => (xfb 1 fd_35_1)) ?_
   refine zdla 10 (fun w hS => (xlb 0 pl_22 hS)) ?_
   refine zdv 11 (fun _ => xmv) ?_
   refine zdv 12 (fun _ => (xix (kk := i) sl_22 h.D.slh)) ?_
   refine zdla 13 (fun w hS => (xlr (u := .int .i64 (p.D i)) pl_3 (h.D.below hS.below))) ?_
   have hbv := h.iD i
   refine zdv 14 (fun _ => (xany (v := .agg #[.int .i64 (p.L i + p.kerf), .int .i64 (y i), .int .i64 (p.D i)]))) ?_
   refine zda 15 (xli (n := 1) (len := 1) (pv := [(0, .agg #[.int .i64 (p.L i + p.kerf), .int .i64 (y i), .int .i64 (p.D i)])]) (cs := [.int .i64 (p.L i + p.kerf), .int .i64 (y i), .int .i64 (p.D i)]) (c := dcells (fun _ => p.L i + p.kerf) (fun _ => (y i)) (fun _ => p.D i)) sl_123 el_125 hS) ?_; rintro v1 w ⟨hS, hv1⟩
   replace hS := hS.n3
   refine ⟨⟨fun _ => hS.pk [0], hS.pk [0]⟩, ?_⟩
   refine zda 16 (xap 1 (r := nC + 1) sl_123 el_125 hS (hS.rowN 2 rfl) (cat_demand ..) (h1 := (fun k _ _ => dcells_one _ _ _ k))) ?_; rintro v2 w ⟨hS, hv2⟩
   replace hS := hS.n3
   refine ⟨⟨fun _ => hS.pk [0], hS.pk [0]⟩, ?_⟩
   refine zdv 17 (fun _ => xas) ?_
   refine zdd <| zbn <| ztn <| zrg ?_
   refine zlv (xadd (r := i + 1)) ?_
   refine zlv xmv ?_
   refine zln <| zlq ⟨nC + 1, (snoc fS nC (p.L i + p.kerf)), (snoc fV nC (y i)), (snoc fM nC (p.D i)), i + 1, v2, rfl, (by omega), (by omega), (by omega), ?_, ?_, rfl, hS.pk [0, 1]⟩
   ·
    intro k k0 k1; by_cases e : k < i
    · rw [snoc_lt (by omega), snoc_lt (by omega), snoc_lt (by omega)]; exact hcc k k0 e
    · obtain rfl : k = i := by omega
      rw [snoc_at (by omega), snoc_at (by omega), snoc_at (by omega)]; exact ⟨rfl, rfl, rfl⟩
   ·
    exact hv2
  refine zxt <| ztx <| ztx <| zbh <| ztn <| zsr ?_
  refine zlv xmv ?_
  obtain rfl : i = p.m := by omega
  subst hnC
  replace hS := hS.recont 1 rfl (d := dcells (itsOf p y).S (itsOf p y).V (itsOf p y).M) (dcells_congr hcc)
  replace hS := hS.n2
  refine zlv (xfb 2 fd_35_2) ?_
  refine zlv (xlb 0 pl_3 hS) ?_
  refine zlv (xfb 3 fd_35_3) ?_
  refine zlv (xlb 0 pl_3 hS) ?_
  refine zlv (xadd (r := p.stock + p.kerf)) ?_
  refine zlc (xc0 cl_80) (c_ksolve (t := (itsOf p y)) (cap := (p.stock + p.kerf)) w (hS.rowN 1 rfl)) ?_; rintro _ w ⟨vkks1, nkks1, xkks1, wkks1, ekks1, rfl, hksks1, hvkks1, hS'⟩
  replace hS : Sat w0 w [.blk g1 [vL, vD, .int .i64 p.stock, .int .i64 p.kerf], .own wC 3 125 p.m (dcells (itsOf p y).S (itsOf p y).V (itsOf p y).M), .own vkks1 1 3 nkks1 (ints xkks1)] := hS.comp hS'; clear hS'
  refine zs6 ?_
  refine zlt <| zrt <| zf3 ⟨_, rfl, ?_⟩
  have hio := its_ok hok hyp
  obtain ⟨_, q2, q3, q4, q5⟩ := hksks1.resolve_left (fun hh => hh.1 hio)
  replace q2 : nkks1 = p.m := q2
  subst q2
  replace hS := hS.recont 2 rfl (d := ints (aC p y)) (fun k k0 k1 => by unfold ints; rw [aC_eq (by omega) q3 k k0 (by omega)])
  exact ⟨_, _, _, _, _, rfl, .inr ⟨hpr, rfl, rfl, ⟨_, q3⟩, q4, q5⟩, hvkks1, hS.pk [2]⟩

def BoundR (p : Prob) (n : Int) (y : Int → Int) (num den e : Int) : Prop := (¬ PrcL p n y ∧ num = 0 ∧ den = 0 ∧ e = 1) ∨ (PrcL p n y ∧ WC p y = 0 ∧ num = 0 ∧ den = 1 ∧ e = 0) ∨
  (PrcL p n y ∧ WC p y ≠ 0 ∧ num = (Tot p.D y p.m.toNat).tdiv (Int.gcd (Tot p.D y p.m.toNat) (WC p y)) ∧ den = (WC p y).tdiv (Int.gcd (Tot p.D y p.m.toNat) (WC p y)) ∧ e = 0)
theorem BoundR.same {p : Prob} {n : Int} {y : Int → Int} {a b e a2 b2 e2 : Int} (h : BoundR p n y a b e) (h' : BoundR p n y a2 b2 e2) : a = a2 ∧ b = b2 ∧ e = e2 := by
  rcases h with ⟨h1, h2, h3, h4⟩ | ⟨h1, h2, h3, h4, h5⟩ | ⟨h1, h2, h3, h4, h5⟩ <;> rcases h' with ⟨g1, g2, g3, g4⟩ | ⟨g1, g2, g3, g4, g5⟩ | ⟨g1, g2, g3, g4, g5⟩ <;>
    first
    | exact absurd ‹PrcL p n y› ‹¬ PrcL p n y›
    | exact absurd ‹WC p y = 0› ‹WC p y ≠ 0›
    | (subst_vars; exact ⟨rfl, rfl, rfl⟩)
theorem WC_bd {p : Prob} {y : Int → Int} (hp : p.Ok) (hy : Priced p y) : 0 ≤ WC p y ∧ WC p y ≤ 4398046511104 := by
  have h1 := hp.s1; have h2 := hp.s2; have h3 := hp.k1; have h4 := hp.k2; have h5 := hp.m1
  have := KI_bound (its_ok hp hy) (i := 0) (by omega) (show 0 ≤ p.m by omega) (c := p.stock + p.kerf) (by omega)
  unfold WC; omega

/-- What a round yields: the patterns' slice and its rows, the solution's slices, the solution, an error. -/
structure CX where
  u : Int
  vP : Value
  vv : Int → Value
  ml : Int → Int
  mf : Int → Int → Int
  vX : Value
  vY : Value
  s : So
  e : Int
/-- The patterns and the error that are at hand behind some rounds. -/
inductive CRn (p : Prob) : Int → (Int → Int) → (Int → Int → Int) → Int → Prop
  | start {u e : Int} {ml : Int → Int} {mf : Int → Int → Int} (h : MStartR p u ml mf e) : CRn p u ml mf e
  | go {u na worth f : Int} {ml : Int → Int} {mf : Int → Int → Int} {a : Int → Int} {s : So} (h : CRn p u ml mf 0) (hs : MSolveR p u ml mf s 0) (hp : PriceR p s.m s.Y na a worth f) (hn : ¬ (f = 0 ∧ worth ≤ s.den)) : CRn p (u + 1) (gsn ml u na) (gsn mf u a) f
/-- No pattern is worth more than a bar. -/
def CLast (p : Prob) (s : So) : Prop := ∃ na a worth, PriceR p s.m s.Y na a worth 0 ∧ worth ≤ s.den
def CMem (x : CX) : List Ent := [.own x.vP 1 22 x.u x.vv, .sem (Frame.rows 3 x.u x.vv x.ml x.mf), .own x.vX 1 3 x.s.n (ints x.s.X), .own x.vY 1 3 x.s.m (ints x.s.Y)]
def CPre (p : Prob) (s : List CX) (x : CX) (rest : Gw.Frame) : Prop := (∀ y ∈ s, y.e = 0) ∧ Slh x.vP x.u ∧ Slh x.vX x.s.n ∧ Slh x.vY x.s.m ∧ (x.e = 0 → Frame.gives rest (CMem x)) ∧
  ∃ e, CRn p x.u x.ml x.mf e ∧ ((e ≠ 0 ∧ x.e = e ∧ x.s = So.zero) ∨ (e = 0 ∧ MSolveR p x.u x.ml x.mf x.s x.e))
def CFin (p : Prob) (s : List CX) (rest : Gw.Frame) : Prop := ∃ s' x, s = s' ++ [x] ∧ CPre p s' x rest ∧ (x.e = 0 → CLast p x.s)
theorem MSolveR.few {p : Prob} {u : Int} {ml : Int → Int} {mf : Int → Int → Int} {s : So} (h : MSolveR p u ml mf s 0) : p.Ok ∧ u ≤ 60 ∧ s.m = p.m := by
  rcases h with ⟨_, _, h⟩ | ⟨_, _, _, h⟩ | ⟨_, _, _, _, _, _, h⟩ | ⟨h1, h2, h3, h4, h5, h6, h7⟩ | ⟨h1, h2, h3, h4, h5⟩
  · omega
  · omega
  · omega
  · exact ⟨h1.1, h3, by rw [h6]; rfl⟩
  · refine ⟨h1.1, h3, ?_⟩
    have := (SolveR.chk (p := lpOf p u mf) (by have := h1.1.m1; show 0 ≤ p.m; omega) h5 rfl).m
    exact this
theorem MSolveR.zero {p : Prob} {u e : Int} {ml : Int → Int} {mf : Int → Int → Int} {s : So} (h : MSolveR p u ml mf s e) (he : e ≠ 0) : s = So.zero := by
  rcases h with ⟨_, h, _⟩ | ⟨_, _, h, _⟩ | ⟨_, _, _, _, _, h, _⟩ | ⟨_, _, _, _, _, _, h⟩ | ⟨_, _, _, _, h⟩
  · exact h
  · exact h
  · exact h
  · exact absurd h he
  · exact h.zero he
theorem c_clone2 {v : Value} {n : Int} {vv : Int → Value} (w0 : World) (ho : (Ent.own v 1 22 n vv).holds w0) (h1 : ∀ k, 0 ≤ k → k < n → (vv k).oneCell' = true) (hn : n ≤ 1000000) : Calls Tryz.prog 83 [v].toArray w0 fun e w => ∃ u, e = .returned u ∧ ∃ r, u = r ∧ Slh r n ∧ Sat w0 w [.own r 1 22 n vv] := by
  have hrow := ho.row
  obtain ⟨hn0, hn1, ⟨rfl, rfl⟩ | ⟨g, cap, cur, rfl, hg, h2, h3, h4, h5⟩⟩ := ho
  · refine (slices_Clone_nil_f83 0 0 w0).mono fun e w ⟨he, hw⟩ => ⟨_, he, _, rfl, slh_nil, ?_⟩
    rw [hw]
    exact (Sat.start w0).addnil 1 22 vv
  · obtain ⟨i, hi, hz, hs, hb⟩ := elem_of el_22
    refine (slices_Clone_f83 i (.slice none 0 0) 1 24 hi hz hs hb rfl (by decide) (fun w => by simp [sizeOf, typeInfo, hi, hs]) g 0 n.toNat cap (cellsOf vv n.toNat) w0 (by rw [cellsOf_length]; omega) (by unfold maxLen; omega) (by omega) (fun j u hj => ?_) (fun u hu => ?_)).mono fun e w ⟨r, he, hr, _, hB⟩ => ⟨r, he, r, rfl, ?_⟩
    · rw [cellsOf_get] at hj
      split at hj
      · rename_i hlt
        cases hj
        have := hrow.2 j (by omega)
        rw [← this]; simp [cad]
      · cases hj
    · obtain ⟨j, hj⟩ := List.getElem?_of_mem hu
      rw [cellsOf_get] at hj
      split at hj
      · cases hj; exact h1 j (by omega) (by omega)
      · cases hj
    · have hE : (Ent.own r 1 22 n vv).holds w := Ent.holds.of_owns hn0 (by omega) (by rw [Nat.mul_one]; exact hr)
      exact ⟨hE.row.slh, hB, fun e he => by obtain rfl := List.mem_singleton.1 he; exact hE, fun e he g hg => by obtain rfl := List.mem_singleton.1 he; exact (hr.lt g hg).1, List.pairwise_singleton _ _⟩

set_option maxHeartbeats 4000000 in
set_option maxRecDepth 20000 in
theorem c_rounds31 {vL vD : Value} {p : Prob} {gp : Nat} (w0 : World) (h : PAt w0 vL vD p) : ItC (St := List CX) (X := CX) (Tt := CX) Tryz.prog w0 81 [.pointer (some ⟨gp, 0, none⟩)] [.blk gp [vL, vD, .int .i64 p.stock, .int .i64 p.kerf]] (fun x => [.agg #[x.vP, x.vX, x.vY, .int .i64 x.s.val, .int .i64 x.s.den, .int .i64 x.e]]) (CPre p) (fun s x s1 => s1 = s ++ [x]) (fun _ _ _ => False) ([]) (CFin p) (fun _ _ => False) := by
  intro l C D w hS hY
  have hm := h.L.slh.n0; have hm1 := h.L.slh.n1; have hd := h.D.slh.n0; have hd1 := h.D.slh.n1; have hs := h.is; have hk := h.ik
  refine henI Tryz.func81 Tryz.ntmps81 ?_
  refine hsq <| hrz ?_
  refine zlv (xls 1 st_35 hS) ?_
  refine zlc (xc0 cl_82) (c_mstart (p := p) w (h.below hS.below)) ?_; rintro _ w ⟨srm91, snm91, svm91, slm91, sgm91, em91, rfl, hmsm91, hsrm91, hS'⟩
  replace hS : Sat w0 w [.sem (C []), .blk gp [vL, vD, .int .i64 p.stock, .int .i64 p.kerf], .own srm91 1 22 snm91 svm91, .sem (Frame.rows 3 snm91 svm91 slm91 sgm91)] := hS.comp hS'; clear hS'
  have hswm91 := fun k (k0 : 0 ≤ k) (k1 : k < snm91) => hS.slhIn 3 rfl k0 k1
  refine zs5 ?_
  refine zln <| zh <| htn <| hbk <| hlp (fun mm M w => ∃ (s : List CX) (u : Int) (wP : Value) (vv : Int → Value) (ml : Int → Int) (mf : Int → Int → Int) (e : Int), mm = ((62 - u).toNat) ∧ (CRn p u ml mf e) ∧ (∀ y ∈ s, y.e = 0) ∧ (Slh wP u) ∧ (u ≤ 61) ∧ M = [(0, .func (.yield l) #[] #[]), (1, .pointer (some ⟨gp, 0, none⟩)), (3, wP), (4, .int .i64 e)] ∧ Sat w0 w [.sem (C s), .blk gp [vL, vD, .int .i64 p.stock, .int .i64 p.kerf], .own wP 1 22 u vv, .sem (Frame.rows 3 u vv ml mf)]) ⟨[], snm91, srm91, svm91, slm91, sgm91, em91, rfl, ?_, ?_, ?_, ?_, rfl, hS⟩ ?_
  ·
   exact .start hmsm91
  ·
   intro y hy; cases hy
  ·
   exact hsrm91
  ·
   rcases hmsm91 with ⟨_, h9, _⟩ | ⟨h9, h8, _⟩
   · omega
   · have := stN_rng p p.m.toNat; have := h9.m2; have := h9.m1; omega
  clear hS w
  rintro mm M w ⟨s, u, wP, vv, ml, mf, e, rfl, hRn, hok9, hsP, hu61, rfl, hS⟩
  have hrs := fun k (k0 : 0 ≤ k) (k1 : k < u) => hS.slhIn 3 rfl k0 k1
  have hu0 := hsP.n0
  refine hbk <| hsq <| hrz ?_
  refine zlv xmv ?_
  refine zlc (xc0 cl_83) (c_clone2 w (hS.holds _ (List.mem_of_getElem? (i := 2) rfl)) (fun k k0 k1 => (hS.slhIn 3 rfl k0 k1).one) (by omega)) ?_; rintro vcc21 w ⟨_, rfl, hvcc21, hS'⟩
  replace hS : Sat w0 w [.sem (C s), .blk gp [vL, vD, .int .i64 p.stock, .int .i64 p.kerf], .own wP 1 22 u vv, .sem (Frame.rows 3 u vv ml mf), .own vcc21 1 22 u vv] := hS.comp hS'; clear hS'
  refine zlv (xany (v := .agg #[vcc21, .slice none 0 0, .slice none 0 0, .int .i64 0, .int .i64 0]) (hr := by obtain ⟨_, _, _, _, rfl, _⟩ := hvcc21; kernel_rfl)) ?_
  refine zlv xmv ?_
  refine zlv (xany (v := .agg #[vcc21, .slice none 0 0, .slice none 0 0, .int .i64 0, .int .i64 0, .int .i64 e]) (hr := by obtain ⟨_, _, _, _, rfl, _⟩ := hvcc21; kernel_rfl)) ?_
  refine zla (xal (cs := [_, _, _, _, _, _]) el_85 hS) ?_; rintro _ w ⟨g1, rfl, hS⟩
  replace hS := hS.n6
  refine zle (xsw 5 st_85 hS (hd := (ones_cons hvcc21.one (ones_cons rfl (ones_cons rfl (ones_cons rfl (ones_cons rfl (ones_cons rfl ones_nil)))))))) ?_; clear hS; rintro w hS
  replace hS := hS.n6
  refine zln <| zh <| htn <| hsq <| hsq <| hrz ?_
  refine zs2 ?_
  refine zln <| zh <| htn ?_
  refine hcif ?_ ?_ <;> intro hc
  ·
   refine hrz ?_
   refine zlv (xls 1 st_35 hS) ?_
   refine zlv xmv ?_
   refine zlc (xc0 cl_84) (c_msolve (p := p) (u := u) (ml := ml) (mf := mf) w (h.below hS.below) (⟨(hS.rowN 2 rfl), fun k k0 k1 => hS.rowIn 3 rfl k0 k1, fun k k0 k1 => hS.roomIn 3 rfl k0 k1⟩ : MAt _ wP u vv ml mf)) ?_; rintro _ w ⟨vXm81, vYm81, sm81, em81, rfl, hmom81, hvXm81, hvYm81, hS'⟩
   replace hS : Sat w0 w [.sem (C s), .blk gp [vL, vD, .int .i64 p.stock, .int .i64 p.kerf], .own wP 1 22 u vv, .sem (Frame.rows 3 u vv ml mf), .own vcc21 1 22 u vv, .blk g1 [vcc21, .slice none 0 0, .slice none 0 0, .int .i64 0, .int .i64 0, .int .i64 e], .own vXm81 1 3 sm81.n (ints sm81.X), .own vYm81 1 3 sm81.m (ints sm81.Y)] := hS.comp hS'; clear hS'
   refine zs3 ?_
   refine zlv (xfb 0 fd_85_0) ?_
   refine zlv (xfb 1 fd_31_1) ?_
   refine zle (xsp 5 st_29 hS (hd := (ones_cons hvXm81.one (ones_cons hvYm81.one (ones_cons rfl (ones_cons rfl ones_nil)))))) ?_; clear hS; rintro w hS
   replace hS := hS.n8
   refine zlv (xfb 5 fd_85_1) ?_
   refine zle (xsb 5 pl_32 hS) ?_; clear hS; rintro w hS
   replace hS := hS.n8
   refine zln <| zh <| htn <| hsq <| hsq <| hrg ?_
   refine hlv xmv ?_
   refine hlv (xls 5 st_85 hS) ?_
   have hprey1 : CPre p s ⟨u, vcc21, vv, ml, mf, vXm81, vYm81, sm81, em81⟩ (Frame.bun [.own wP 1 22 u vv, .sem (Frame.rows 3 u vv ml mf), .own vcc21 1 22 u vv, .blk g1 [vcc21, vXm81, vYm81, .int .i64 sm81.val, .int .i64 sm81.den, .int .i64 em81], .own vXm81 1 3 sm81.n (ints sm81.X), .own vYm81 1 3 sm81.m (ints sm81.Y)]) := ⟨hok9, hvcc21, hvXm81, hvYm81, fun _ => gives_pk [2, 1, 4, 5], e, hRn, .inr ⟨by assumption, hmom81⟩⟩
   refine hly (hY s _ _ w hprey1 (Sat.bundle (l1 := [_, _]) hS)) ?_; rintro _ w (⟨rfl, sy1, hny1, hS⟩ | ⟨rfl, ty1, hdy1, hS⟩)
   ·
    replace hS := Sat.unbundle (l1 := [_, _]) (l3 := []) hS
    replace hS := hS.n8
    refine hlv xnt ?_
    refine hlv xmv ?_
    refine hlv (xfb 5 fd_85_1) ?_
    refine hlv (xlb 5 pl_32 hS) ?_
    refine hlv xneq ?_
    refine hlv xpf ?_
    refine hln <| htn ?_
    refine hcif ?_ ?_ <;> intro hc
    ·
     refine hrt <| ztr <| zbr <| ztr <| zbr <| zf0 ⟨_, rfl, ?_⟩
     subst hny1
     exact .inl ⟨_, _, ⟨s, _, rfl, ⟨hprey1.1, hprey1.2.1, hprey1.2.2.1, hprey1.2.2.2.1, fun _ => gives_pk [2, 1, 4, 5], hprey1.2.2.2.2.2⟩, by first | exact fun hh => absurd hh (by assumption) | exact fun _ => ⟨_, _, _, (by rw [show (0 : Int) = eapz1 by omega]; exact hpzpz1z), by show wapz1 ≤ sm81.den; omega⟩⟩, Sat.bundle (l1 := [_, _]) hS⟩
    refine hsk <| htn <| hsq <| hrz ?_
    refine zlv (xls 1 st_35 hS) ?_
    refine zlv (xfb 0 fd_85_0) ?_
    refine zlv (xfb 1 fd_31_1) ?_
    refine zlv (xfb 2 fd_29_1) ?_
    refine zlv (xlb 5 pl_22 hS) ?_
    refine zlc (xc0 cl_46) (c_price (p := p) (n := sm81.m) (y := sm81.Y) w (h.below hS.below) (hS.rowN 7 rfl)) ?_; rintro _ w ⟨vapz1, napz1, xapz1, wapz1, eapz1, rfl, hpzpz1, hvapz1, hS'⟩
    replace hS : Sat w0 w [.sem (C sy1), .blk gp [vL, vD, .int .i64 p.stock, .int .i64 p.kerf], .own wP 1 22 u vv, .sem (Frame.rows 3 u vv ml mf), .own vcc21 1 22 u vv, .blk g1 [vcc21, vXm81, vYm81, .int .i64 sm81.val, .int .i64 sm81.den, .int .i64 em81], .own vXm81 1 3 sm81.n (ints sm81.X), .own vYm81 1 3 sm81.m (ints sm81.Y), .own vapz1 1 3 napz1 (ints xapz1)] := hS.comp hS'; clear hS'
    refine zs2 ?_
    have hfe := hmom81; rw [show em81 = 0 by omega] at hfe
    obtain ⟨hok, hu60, hsm⟩ := hfe.few
    refine zs5 ?_
    refine zln <| zh <| htn <| hsq <| hsq <| hrz ?_
    refine zs3 ?_
    refine zlb 51 ?_ ?_ <;> intro hc
    ·
     refine zlv xmv ?_
     refine zlv (xfb 0 fd_85_0) ?_
     refine zlv (xfb 1 fd_31_1) ?_
     refine zlv (xfb 4 fd_29_3) ?_
     refine zlv (xlb 5 pl_3 hS) ?_
     refine zs2 ?_
     have hpzpz1z := hpzpz1
     refine zln <| zh <| htn ?_
     refine hcif ?_ ?_ <;> intro hc
     ·
      refine hrt <| ztr <| zbr <| ztr <| zbr <| zf0 ⟨_, rfl, ?_⟩
      subst hny1
      exact .inl ⟨_, _, ⟨s, _, rfl, ⟨hprey1.1, hprey1.2.1, hprey1.2.2.1, hprey1.2.2.2.1, fun _ => gives_pk [2, 1, 4, 5], hprey1.2.2.2.2.2⟩, by first | exact fun hh => absurd hh (by assumption) | exact fun _ => ⟨_, _, _, (by rw [show (0 : Int) = eapz1 by omega]; exact hpzpz1z), by show wapz1 ≤ sm81.den; omega⟩⟩, Sat.bundle (l1 := [_, _]) hS⟩
     refine hsk <| htn <| hrz ?_
     refine zs2 ?_
     refine zla (xli (n := 1) (len := 1) (pv := [(0, vapz1)]) (cs := [vapz1]) (c := (fun _ => vapz1)) sl_27 el_22 hS (hf := by obtain ⟨_, _, _, _, rfl, _⟩ := hvapz1; kernel_rfl)) ?_; rintro v1 w ⟨hS, hv1⟩
     replace hS := hS.n10
     refine zla (xap 2 (r := u + 1) sl_27 el_22 hS (hS.rowN 9 rfl) (cat_gsn _ _ _) (h1 := fun _ _ _ => hvapz1.one)) ?_; rintro v2 w ⟨hS, hv2⟩
     replace hS := hS.n10
     replace hS := Sat.merge (l1 := [_, _, _]) (l2 := [_, _, _, _]) (l3 := [_]) hS (by omega)
     have hrs1 := fun k (k0 : 0 ≤ k) (k1 : k < u + 1) => hS.slhIn 3 rfl k0 k1
     replace hS := hS.n9
     refine zs3 ?_
     refine zln <| zh <| zbn <| hlq ⟨sy1, u + 1, v2, gsn vv u vapz1, gsn ml u napz1, gsn mf u xapz1, eapz1, rfl, ?_, ?_, ?_, ?_, rfl, hS.pk [0, 1, 2, 3]⟩
     ·
      exact .go (by rw [show (0 : Int) = e by omega]; exact hRn) hfe hpzpz1 (by omega)
     ·
      rw [hny1]; intro y hy; rcases List.mem_append.1 hy with hy | hy
      · exact hok9 y hy
      · obtain rfl := List.mem_singleton.1 hy; show em81 = 0; omega
     ·
      exact hv2
     ·
      omega
    iterate 6 refine zlo ?_
    refine zlv xpf ?_
    have hpzpz1z := hpzpz1
    refine zln <| zh <| htn <| hcf <| hsk <| htn <| hrz ?_
    refine zs2 ?_
    refine zla (xli (n := 1) (len := 1) (pv := [(0, vapz1)]) (cs := [vapz1]) (c := (fun _ => vapz1)) sl_27 el_22 hS (hf := by obtain ⟨_, _, _, _, rfl, _⟩ := hvapz1; kernel_rfl)) ?_; rintro v3 w ⟨hS, hv3⟩
    replace hS := hS.n10
    refine zla (xap 2 (r := u + 1) sl_27 el_22 hS (hS.rowN 9 rfl) (cat_gsn _ _ _) (h1 := fun _ _ _ => hvapz1.one)) ?_; rintro v4 w ⟨hS, hv4⟩
    replace hS := hS.n10
    replace hS := Sat.merge (l1 := [_, _, _]) (l2 := [_, _, _, _]) (l3 := [_]) hS (by omega)
    have hrs2 := fun k (k0 : 0 ≤ k) (k1 : k < u + 1) => hS.slhIn 3 rfl k0 k1
    replace hS := hS.n9
    refine zs3 ?_
    refine zln <| zh <| zbn <| hlq ⟨sy1, u + 1, v4, gsn vv u vapz1, gsn ml u napz1, gsn mf u xapz1, eapz1, rfl, ?_, ?_, ?_, ?_, rfl, hS.pk [0, 1, 2, 3]⟩
    ·
     exact .go (by rw [show (0 : Int) = e by omega]; exact hRn) hfe hpzpz1 (by omega)
    ·
     rw [hny1]; intro y hy; rcases List.mem_append.1 hy with hy | hy
     · exact hok9 y hy
     · obtain rfl := List.mem_singleton.1 hy; show em81 = 0; omega
    ·
     exact hv4
    ·
     omega
   ·
    replace hS := Sat.unbundle (l1 := [_, _]) (l3 := []) hS
    replace hS := hS.n8
    refine hlv xnf ?_
    refine hlv xmv ?_
    iterate 3 refine hlo ?_
    refine hlv xpt ?_
    refine hln <| htn <| hct <| hrt <| ztr <| zbr <| ztr <| zbr <| zf0 ⟨_, rfl, ?_⟩
    exact hdy1.elim
  refine hsk <| htn <| hsq <| hsq <| hrg ?_
  refine hlv xmv ?_
  refine hlv (xls 5 st_85 hS) ?_
  have hprey2 : CPre p s ⟨u, vcc21, vv, ml, mf, .slice none 0 0, .slice none 0 0, So.zero, e⟩ (Frame.bun [.own wP 1 22 u vv, .sem (Frame.rows 3 u vv ml mf), .own vcc21 1 22 u vv, .blk g1 [vcc21, .slice none 0 0, .slice none 0 0, .int .i64 0, .int .i64 0, .int .i64 e]]) := ⟨hok9, hvcc21, slh_nil, slh_nil, fun hh => absurd hh (by assumption), e, hRn, .inl ⟨by assumption, rfl, rfl⟩⟩
  refine hly (hY s _ _ w hprey2 (Sat.bundle (l1 := [_, _]) hS)) ?_; rintro _ w (⟨rfl, sy2, hny2, hS⟩ | ⟨rfl, ty2, hdy2, hS⟩)
  ·
   replace hS := Sat.unbundle (l1 := [_, _]) (l3 := []) hS
   replace hS := hS.n6
   refine hlv xnt ?_
   refine hlv xmv ?_
   refine hlv (xfb 5 fd_85_1) ?_
   refine hlv (xlb 5 pl_32 hS) ?_
   refine hlv xneq ?_
   refine hlv xpf ?_
   refine hln <| htn ?_
   refine hcif ?_ ?_ <;> intro hc
   ·
    refine hrt <| ztr <| zbr <| ztr <| zbr <| zf0 ⟨_, rfl, ?_⟩
    subst hny2
    exact .inl ⟨_, _, ⟨s, _, rfl, ⟨hprey2.1, hprey2.2.1, hprey2.2.2.1, hprey2.2.2.2.1, fun hh => absurd hh (by assumption), hprey2.2.2.2.2.2⟩, by first | exact fun hh => absurd hh (by assumption) | exact fun _ => ⟨_, _, _, (by rw [show (0 : Int) = eapz1 by omega]; exact hpzpz1z), by show wapz1 ≤ sm81.den; omega⟩⟩, Sat.bundle (l1 := [_, _]) hS⟩
   exfalso; omega
  ·
   replace hS := Sat.unbundle (l1 := [_, _]) (l3 := []) hS
   replace hS := hS.n6
   refine hlv xnf ?_
   refine hlv xmv ?_
   iterate 3 refine hlo ?_
   refine hlv xpt ?_
   refine hln <| htn <| hct <| hrt <| ztr <| zbr <| ztr <| zbr <| zf0 ⟨_, rfl, ?_⟩
   exact hdy2.elim

theorem c_crounds {vL vD : Value} {p : Prob} (w0 : World) (h : PAt w0 vL vD p) :
    Calls Tryz.prog 48 [.agg #[vL, vD, .int .i64 p.stock, .int .i64 p.kerf]].toArray w0 fun e w => ∃ v, e = .returned v ∧ ∃ g, v = .func (.func 81) #[] #[.pointer (some ⟨g, 0, none⟩)] ∧ Sat w0 w [.blk g [vL, vD, .int .i64 p.stock, .int .i64 p.kerf]] := by
  refine zenG Tryz.func48 Tryz.ntmps48 fun w hS => ?_
  refine zsr ?_
  refine zla (xbx (cs := [_, _, _, _]) hS) ?_; rintro _ w ⟨g1, rfl, hS⟩
  replace hS := hS.n1
  refine zlv xas ?_
  refine zlz ?_
  refine zlv xmf ?_
  refine zlv xas ?_
  refine zlt <| zrt <| zf1 ⟨_, rfl, ?_⟩
  exact ⟨_, rfl, hS⟩

def CX.zer : CX := ⟨0, .slice none 0 0, fun _ => undef, fun _ => 0, fun _ _ => 0, .slice none 0 0, .slice none 0 0, So.zero, 0⟩
def lastC (s : List CX) : CX := s.getLast?.getD CX.zer
theorem lastC_snoc (s : List CX) (x : CX) : lastC (s ++ [x]) = x := by simp [lastC]
def ColR (p : Prob) (u : Int) (ml : Int → Int) (mf : Int → Int → Int) (s : So) (e : Int) : Prop := (¬ p.Ok ∧ u = 0 ∧ s = So.zero ∧ e = 1) ∨
  (p.Ok ∧ e ≠ 0 ∧ u = 0 ∧ s = So.zero ∧ ∃ u1 ml1 mf1 e1, CRn p u1 ml1 mf1 e1 ∧ ((e1 ≠ 0 ∧ e = e1) ∨ (e1 = 0 ∧ ∃ s1, MSolveR p u1 ml1 mf1 s1 e))) ∨ (p.Ok ∧ e = 0 ∧ CRn p u ml mf 0 ∧ MSolveR p u ml mf s 0 ∧ CLast p s)

set_option maxHeartbeats 4000000 in
set_option maxRecDepth 20000 in
theorem c_csolve {vL vD : Value} {p : Prob} (w0 : World) (h : PAt w0 vL vD p) :
    Calls Tryz.prog 11 [.agg #[vL, vD, .int .i64 p.stock, .int .i64 p.kerf]].toArray w0 fun e w => ∃ v, e = .returned v ∧ ∃ vP vv vX vY u ml mf s e, v = .tuple #[.agg #[vP, vX, vY, .int .i64 s.val, .int .i64 s.den], .int .i64 e] ∧ ColR p u ml mf s e ∧ Slh vP u ∧ Slh vX s.n ∧ Slh vY s.m ∧ Sat w0 w [.own vP 1 22 u vv, .sem (Frame.rows 3 u vv ml mf), .own vX 1 3 s.n (ints s.X), .own vY 1 3 s.m (ints s.Y)] := by
  have hm := h.L.slh.n0; have hm1 := h.L.slh.n1; have hd := h.D.slh.n0; have hd1 := h.D.slh.n1; have hs := h.is; have hk := h.ik
  refine henM Tryz.func11 Tryz.ntmps11 fun w hS => ?_
  refine hsq <| hrz ?_
  refine zla (xbx (cs := [_, _, _, _]) hS) ?_; rintro _ w ⟨g1, rfl, hS⟩
  replace hS := hS.n1
  refine zla (xal (cs := [_, _, _, _, _]) el_31 hS) ?_; rintro _ w ⟨g2, rfl, hS⟩
  replace hS := hS.n2
  refine zlv xas ?_
  refine zln <| zh <| htn <| hsq <| hsq <| hrz ?_
  refine zlv (xls 0 st_35 hS) ?_
  refine zlc (xc0 cl_47) (c_pvalid (p := p) w (h.below hS.below)) ?_; rintro _ w ⟨rfl, hS'⟩
  replace hS := hS.cmp hS'; clear hS'
  refine zlv xnot ?_
  refine zln <| zh <| htn ?_
  refine hcif ?_ ?_ <;> intro hc
  ·
   refine hsq <| hrz ?_
   refine zlv (xany (v := .agg #[.slice none 0 0, .slice none 0 0, .slice none 0 0, .int .i64 0, .int .i64 0])) ?_
   refine zle (xsw 1 st_31 hS) ?_; clear hS; rintro w hS
   replace hS := hS.n2
   refine zlv xas ?_
   refine zln <| zh <| htn <| hrt <| ztr <| hmk0 <| zfct 1 st_31 hS ⟨_, rfl, ?_⟩
   exact ⟨_, fun _ => undef, _, _, 0, fun _ => 0, fun _ _ => 0, So.zero, 1, rfl, .inl ⟨‹¬ p.Ok›, rfl, rfl, rfl⟩, slh_nil, slh_nil, slh_nil, ((((hS.sub (.cons _ (.cons _ .slnil))).addnil 1 22 (fun _ => undef)).addrows 3 (fun _ => undef) (fun _ => 0) (fun _ _ => 0)).addnil 1 3 (ints So.zero.X)).addnil 1 3 (ints So.zero.Y)⟩
  refine hsk <| htn <| hsq <| hrz ?_
  refine zla (xal (cs := [_, _, _, _, _, _]) el_85 hS) ?_; rintro _ w ⟨g3, rfl, hS⟩
  replace hS := hS.n3
  refine zln <| zh <| htn <| hsq <| hsq <| hrz ?_
  refine zlv (xls 0 st_35 hS) ?_
  have hok : p.Ok := by first | assumption | exact Classical.not_not.1 ‹_›
  refine zlc (xc0 cl_48) (c_crounds (p := p) w (h.below hS.below)) ?_; rintro _ w ⟨g4, rfl, hS'⟩
  replace hS : Sat w0 w [.blk g1 [vL, vD, .int .i64 p.stock, .int .i64 p.kerf], .blk g2 [.slice none 0 0, .slice none 0 0, .slice none 0 0, .int .i64 0, .int .i64 0], .blk g3 [.slice none 0 0, .slice none 0 0, .slice none 0 0, .int .i64 0, .int .i64 0, .int .i64 0], .blk g4 [vL, vD, .int .i64 p.stock, .int .i64 p.kerf]] := hS.comp hS'; clear hS'
  refine zln <| zh <| htn <| hbk <| ?_
  refine hrf (St := List CX) (X := CX) (Tt := CX) (fun s => [.blk g1 [vL, vD, .int .i64 p.stock, .int .i64 p.kerf], .blk g2 [.slice none 0 0, .slice none 0 0, .slice none 0 0, .int .i64 0, .int .i64 0], .blk g3 [(lastC s).vP, (lastC s).vX, (lastC s).vY, .int .i64 ((lastC s).s.val), .int .i64 ((lastC s).s.den), .int .i64 ((lastC s).e)]]) (fun t => []) (fun _ => .ret) [] (fun x M es => ∃ (g5 : Nat), M = [(0, .agg #[vL, vD, .int .i64 p.stock, .int .i64 p.kerf]), (1, .pointer (some ⟨g1, 0, none⟩)), (2, .pointer (some ⟨g2, 0, none⟩)), (3, .int .i64 0), (6, .agg #[vL, vD, .int .i64 p.stock, .int .i64 p.kerf]), (7, B (p.Ok)), (8, B (¬ (p.Ok))), (4, .pointer (some ⟨g3, 0, none⟩)), (10, .agg #[vL, vD, .int .i64 p.stock, .int .i64 p.kerf]), (11, .func (.func 81) #[] #[.pointer (some ⟨g4, 0, none⟩)]), (12, .agg #[x.vP, x.vX, x.vY, .int .i64 x.s.val, .int .i64 x.s.den, .int .i64 x.e]), (5, .pointer (some ⟨g5, 0, none⟩))] ∧ es = [.blk g5 [x.vP, x.vX, x.vY, .int .i64 x.s.val, .int .i64 x.s.den, .int .i64 x.e]]) (c_rounds31 (gp := g4) w0 h) (hS) cl_81 (fun _ => rfl) (fun _ => .inl rfl) ?_ ?_ ?_ ?_
  ·
   intro l s x rest w hpre rest1 hrr hS
   have hxP := hpre.2.1; have hxX := hpre.2.2.1; have hxY := hpre.2.2.2.1
   replace hS := hS.n5
   refine hrz ?_
   refine zla (xal (cs := [_, _, _, _, _, _]) el_85 hS) ?_; rintro _ w ⟨g5, rfl, hS⟩
   replace hS := hS.n6
   refine zle (xsw 5 st_85 hS (hd := (ones_cons hxP.one (ones_cons hxX.one (ones_cons hxY.one (ones_cons rfl (ones_cons rfl (ones_cons rfl ones_nil)))))))) ?_; clear hS; rintro w hS
   replace hS := hS.n6
   refine zln <| zh <| hasg ⟨g5, rfl, rfl⟩ hS
  ·
   rintro l s x _ _ rest w hpre ⟨g5, rfl, rfl⟩ rest1 hrr hS
   have hxP := hpre.2.1; have hxX := hpre.2.2.1; have hxY := hpre.2.2.2.1
   replace hS := hS.n6
   refine hbk <| hrz ?_
   refine zlv (xls 5 st_85 hS) ?_
   refine zle (xsw 2 st_85 hS (hd := (ones_cons hxP.one (ones_cons hxX.one (ones_cons hxY.one (ones_cons rfl (ones_cons rfl (ones_cons rfl ones_nil)))))))) ?_; clear hS; rintro w hS
   replace hS := hS.n6
   refine zln <| zh <| zbn ?_
   obtain ⟨s1, hs1⟩ : ∃ s1, s1 = s ++ [x] := ⟨_, rfl⟩
   have e1 : lastC s1 = x := by rw [hs1, lastC_snoc]
   rw [← e1] at hS
   refine hrdN s1 hs1 (hS.pk [0, 1, 2, 3, 4])
  ·
   intro Dk s rest w hfin hS
   replace hS := hS.n6
   obtain ⟨s9, x, rfl, hpre, hlast⟩ := hfin
   have hxP := hpre.2.1; have hxX := hpre.2.2.1; have hxY := hpre.2.2.2.1
   rw [lastC_snoc] at hS
   replace hS := hS.n6
   refine zbn <| htn <| hsq <| hsq <| hrz ?_
   refine zlv (xfb 5 fd_85_1) ?_
   refine zlv (xlb 2 pl_32 hS) ?_
   refine zlv xneq ?_
   refine zln <| zh <| htn ?_
   refine hcif ?_ ?_ <;> intro hc
   ·
    refine hsq ?_
    refine hdst [0, 1, 2, 3, 4, 5] [0, 2, 3, 4, 5] 3 mx_ hS ?_; clear hS; intro w hS
    refine zdv 0 (fun _ => (xany (v := .agg #[.slice none 0 0, .slice none 0 0, .slice none 0 0, .int .i64 0, .int .i64 0]))) ?_
    refine zdv 1 (fun _ => (xfb 5 fd_85_1)) ?_
    refine zdla 2 (fun w hS => (xlb 1 pl_32 hS)) ?_
    refine zde 3 (xsw 1 st_31 hS) ?_; clear hS; rintro w hS
    replace hS := hS.n6
    refine ⟨⟨fun h => absurd h (by decide), hS.pk [0, 2, 3, 4, 5]⟩, ?_⟩
    refine zdv 4 (fun _ => xas) ?_
    refine zdd <| zh <| htn <| hrt <| ztr <| hmk1 5 hS fun w hS => zfct 1 st_31 hS ⟨_, rfl, ?_⟩
    obtain ⟨e1, hc1, hc2⟩ := hpre.2.2.2.2.2
    exact ⟨_, fun _ => undef, _, _, 0, fun _ => 0, fun _ _ => 0, So.zero, x.e, rfl, .inr (.inl ⟨hok, by assumption, rfl, rfl, _, _, _, e1, hc1, by rcases hc2 with ⟨q1, q2, _⟩ | ⟨q1, q2⟩; exact .inl ⟨q1, q2⟩; exact .inr ⟨q1, _, q2⟩⟩), slh_nil, slh_nil, slh_nil, ((((hS.sub (.cons _ (.cons _ (.cons _ (.cons _ (.cons _ (.cons _ .slnil))))))).addnil 1 22 (fun _ => undef)).addrows 3 (fun _ => undef) (fun _ => 0) (fun _ _ => 0)).addnil 1 3 (ints So.zero.X)).addnil 1 3 (ints So.zero.Y)⟩
   refine hsk <| htn <| hsq <| hrz ?_
   refine zlv (xfb 0 fd_85_0) ?_
   refine zlv (xlp 2 (ds := [x.vP, x.vX, x.vY, .int .i64 x.s.val, .int .i64 x.s.den]) st_31 hS) ?_
   refine zle (xsw 1 st_31 hS (hd := (ones_cons hxP.one (ones_cons hxX.one (ones_cons hxY.one (ones_cons rfl (ones_cons rfl ones_nil))))))) ?_; clear hS; rintro w hS
   replace hS := hS.n6
   refine zlv xas ?_
   refine zln <| zh <| htn <| hrt <| hmk1 5 hS fun w hS => zfct 1 st_31 hS ⟨_, rfl, ?_⟩
   have hx0 : x.e = 0 := by omega
   obtain ⟨e1, hc1, hc2⟩ := hpre.2.2.2.2.2
   obtain ⟨q1, q2⟩ : e1 = 0 ∧ MSolveR p x.u x.ml x.mf x.s 0 := by rcases hc2 with ⟨q1, q2, _⟩ | ⟨q1, q2⟩; exact absurd (by omega) q1; exact ⟨q1, hx0 ▸ q2⟩
   subst q1
   replace hS := hS.given 4 (hpre.2.2.2.2.1 hx0)
   replace hS := Sat.unbundle (l1 := [_, _, _, _]) (l3 := [_]) hS
   exact ⟨_, x.vv, _, _, _, _, _, x.s, 0, rfl, .inr (.inr ⟨hok, rfl, hc1, q2, hlast hx0⟩), hxP, hxX, hxY, hS.pk [4, 5, 6, 7]⟩
  ·
   intro Dk t rest w hfin hS
   replace hS := hS.n3
   exact hfin.elim

end Go.Proofs.YtopmifmfecfaaaaGreat
