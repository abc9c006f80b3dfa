/- The walk of ColumnBound. -/
import Derived.Test.YtdlojjhknmmmlaaGv
import Derived.Test.YtdlojjhknmmmlaaK8
namespace Go.Proofs.Ytdlojjhknmmmlaa
open Go Go.RowKit Go.Proofs.Gw
set_option linter.unusedVariables false

theorem cl_10 : calledT Try.prog 10 = true := by kernel_rfl
theorem cl_12 : calledT Try.prog 12 = true := by kernel_rfl
theorem cl_17 : calledT Try.prog 17 = true := by kernel_rfl
theorem cl_20 : calledT Try.prog 20 = true := by kernel_rfl
theorem cl_21 : calledT Try.prog 21 = true := by kernel_rfl
theorem cl_22 : calledT Try.prog 22 = true := by kernel_rfl
theorem cl_9 : calledT Try.prog 9 = true := by kernel_rfl
theorem fd_45_0 : fieldT Try.prog 45 0 = some 0 := by kernel_rfl
theorem fd_45_1 : fieldT Try.prog 45 1 = some 1 := by kernel_rfl
theorem pl_53 : plainT Try.prog 53 = true := by kernel_rfl
theorem sl_50 : sliceT Try.prog 50 = some (53, 1) := by kernel_rfl
theorem so_53 : (Try.prog.underlying 53).isSome = true := by kernel_rfl
theorem crnMx {u e : Int} {ml : Int → Int} {mf : Int → Int → Int} (h : CRn pMx u ml mf e) : u = stN pMx 2 ∧ ml = stL pMx 2 ∧ mf = stG pMx 2 ∧ e = 0 := by
  induction h with
  | start h =>
    rcases h with ⟨h, _⟩ | ⟨_, h1, h2, h3, h4⟩
    · exact absurd okMx h
    · exact ⟨h1, h2, h3, h4⟩
  | go h hs hp hn ih =>
    exfalso
    obtain ⟨rfl, rfl, rfl, _⟩ := ih
    obtain ⟨_, rfl⟩ := solMx hs
    rcases hp with ⟨hp, _⟩ | ⟨_, _, _, _, hw, hf⟩
    · exact hp ⟨okMx, by decide +kernel, bnd (by decide +kernel)⟩
    · refine hn ⟨hf, ?_⟩
      rw [hw]; decide +kernel
theorem colMx {u e : Int} {ml : Int → Int} {mf : Int → Int → Int} {s : So} (h : ColR pMx u ml mf s e) : e = 0 ∧ 0 < s.den ∧ s.val = 2 * s.den ∧ s.den ≤ 1073741824 := by
  rcases h with ⟨h, _⟩ | ⟨_, h1, _, _, u1, ml1, mf1, e1, h2, h3⟩ | ⟨_, h1, h2, h3, _⟩
  · exact absurd okMx h
  · exfalso
    obtain ⟨rfl, rfl, rfl, he⟩ := crnMx h2
    rcases h3 with ⟨h3, _⟩ | ⟨_, s1, h3⟩
    · exact h3 he
    · exact h1 (solMx h3).1
  · obtain ⟨rfl, rfl, rfl, _⟩ := crnMx h2
    obtain ⟨_, rfl⟩ := solMx h3
    exact ⟨h1, by decide +kernel, by decide +kernel, by decide +kernel⟩
def yMx : Int → Int := fun k => [2, 1].getD k.toNat 0
def xMx : Int → Int := fun k => [2, 0].getD k.toNat 0
theorem kxMx : KX (itsOf pMx yMx) (pMx.stock + pMx.kerf) xMx pMx.m := by
  intro i i0 i1
  have hm : pMx.m = 2 := rfl
  have : i = 0 ∨ i = 1 := by omega
  rcases this with rfl | rfl
  · refine ⟨by decide +kernel, by decide +kernel, by decide +kernel, by decide +kernel, fun j j0 j1 _ => ?_⟩
    have h2 : (itsOf pMx yMx).M 0 = 2 := by decide +kernel
    have h3 : xMx 0 = 2 := by decide +kernel
    omega
  · refine ⟨by decide +kernel, by decide +kernel, by decide +kernel, by decide +kernel, fun j j0 _ j2 => ?_⟩
    have h2 : (itsOf pMx yMx).S 1 = 4 := by decide +kernel
    have h3 : xMx 1 = 0 := by decide +kernel
    have h4 : pMx.stock + pMx.kerf - KU (itsOf pMx yMx) xMx (1 : Int).toNat = 0 := by decide +kernel
    rw [h2, h4] at j2; omega
theorem prcMx {na worth e : Int} {a : Int → Int} (h : PriceR pMx 2 yMx na a worth e) : e = 0 ∧ worth = 4 ∧ na = 2 ∧ ∀ k, 0 ≤ k → k < 2 → a k = xMx k := by
  rcases h with ⟨h, _⟩ | ⟨_, h1, h2, _, h3, h4⟩
  · exact absurd ⟨okMx, by decide +kernel, bnd (by decide +kernel)⟩ h
  · refine ⟨h4, by rw [h3]; decide +kernel, h1, fun k k0 k1 => ?_⟩
    rw [h2]; exact (aC_eq (by decide +kernel) kxMx k k0 k1).symm

set_option maxHeartbeats 4000000 in
set_option maxRecDepth 20000 in
theorem c_awake31  (w0 : World) :
    Calls Try.prog 9 [].toArray w0 fun e w => ∃ v, e = .returned v ∧ v = .bool true ∧ Sat w0 w [] := by
  refine zenG Try.func9 Try.ntmps9 fun w hS => ?_
  refine zsr ?_
  refine zlv xas ?_
  refine zlz ?_
  refine zla (xli (n := 2) (len := 2) (pv := [(0, .int .i64 5), (1, .int .i64 3)]) (cs := [.int .i64 5, .int .i64 3]) (c := ints (fun k => [5, 3].getD k.toNat 0)) sl_22 el_3 hS) ?_; rintro v1 w ⟨hS, hv1⟩
  replace hS := hS.n1
  refine zla (xli (n := 2) (len := 2) (pv := [(0, .int .i64 2), (1, .int .i64 3)]) (cs := [.int .i64 2, .int .i64 3]) (c := ints (fun k => [2, 3].getD k.toNat 0)) sl_22 el_3 hS) ?_; rintro v2 w ⟨hS, hv2⟩
  replace hS := hS.n2
  refine zlv (xany (v := .agg #[v1, v2, .int .i64 11, .int .i64 1]) (hr := by obtain ⟨_, _, _, _, rfl, _⟩ := hv1; obtain ⟨_, _, _, _, rfl, _⟩ := hv2; kernel_rfl)) ?_
  refine zla (xal (cs := [_, _, _, _]) el_36 hS) ?_; rintro _ w ⟨g1, rfl, hS⟩
  replace hS := hS.n3
  refine zle (xsw 2 st_36 hS (hd := (ones_cons hv1.one (ones_cons hv2.one (ones_cons rfl (ones_cons rfl ones_nil)))))) ?_; clear hS; rintro w hS
  replace hS := hS.n3
  refine zlz ?_
  refine zlv (xls 2 st_36 hS) ?_
  refine zlc (xc0 cl_12) (c_csolve (p := (⟨2, (fun k => [5, 3].getD k.toNat 0), 2, (fun k => [2, 3].getD k.toNat 0), 11, 1⟩ : Prob)) w (⟨(hS.rowN 0 rfl), (hS.rowN 1 rfl), (litb _ (by decide)), (litb _ (by decide)), (by (try dsimp only); omega), (by (try dsimp only); omega)⟩ : PAt _ _ _ (⟨2, (fun k => [5, 3].getD k.toNat 0), 2, (fun k => [2, 3].getD k.toNat 0), 11, 1⟩ : Prob))) ?_; rintro _ w ⟨vPcs1, vvcs1, vXcs1, vYcs1, ucs1, mlcs1, mfcs1, scs1, ecs1, rfl, hcocs1, hvPcs1, hvXcs1, hvYcs1, hS'⟩
  replace hS : Sat w0 w [.own v1 1 3 2 (ints (fun k => [5, 3].getD k.toNat 0)), .own v2 1 3 2 (ints (fun k => [2, 3].getD k.toNat 0)), .blk g1 [v1, v2, .int .i64 11, .int .i64 1], .own vPcs1 1 22 ucs1 vvcs1, .sem (Frame.rows 3 ucs1 vvcs1 mlcs1 mfcs1), .own vXcs1 1 3 scs1.n (ints scs1.X), .own vYcs1 1 3 scs1.m (ints scs1.Y)] := hS.comp hS'; clear hS'
  have hrwcs1 := fun k (k0 : 0 ≤ k) (k1 : k < ucs1) => hS.slhIn 4 rfl k0 k1
  refine zs3 ?_
  obtain ⟨z1, z2, z3, z4⟩ := colMx hcocs1
  refine zla (xal (cs := [_, _, _, _, _]) el_32 hS) ?_; rintro _ w ⟨g2, rfl, hS⟩
  replace hS := hS.n8
  refine zle (xsw 7 st_32 hS (hd := (ones_cons hvPcs1.one (ones_cons hvXcs1.one (ones_cons hvYcs1.one (ones_cons rfl (ones_cons rfl ones_nil))))))) ?_; clear hS; rintro w hS
  replace hS := hS.n8
  refine zlv xas ?_
  refine zlz ?_
  refine zlv (xls 2 st_36 hS) ?_
  refine zla (xli (n := 2) (len := 2) (pv := [(0, .int .i64 2), (1, .int .i64 1)]) (cs := [.int .i64 2, .int .i64 1]) (c := ints (fun k => [2, 1].getD k.toNat 0)) sl_22 el_3 hS) ?_; rintro v3 w ⟨hS, hv3⟩
  replace hS := hS.n9
  refine zlc (xc0 cl_15) (c_price (p := (⟨2, (fun k => [5, 3].getD k.toNat 0), 2, (fun k => [2, 3].getD k.toNat 0), 11, 1⟩ : Prob)) (n := 2) (y := (fun k => [2, 1].getD k.toNat 0)) w (⟨(hS.rowN 0 rfl), (hS.rowN 1 rfl), (litb _ (by decide)), (litb _ (by decide)), (by (try dsimp only); omega), (by (try dsimp only); omega)⟩ : PAt _ _ _ (⟨2, (fun k => [5, 3].getD k.toNat 0), 2, (fun k => [2, 3].getD k.toNat 0), 11, 1⟩ : Prob)) (hS.rowN 8 rfl)) ?_; rintro _ w ⟨vapz1, napz1, xapz1, wapz1, eapz1, rfl, hpzpz1, hvapz1, hS'⟩
  replace hS : Sat w0 w [.own v1 1 3 2 (ints (fun k => [5, 3].getD k.toNat 0)), .own v2 1 3 2 (ints (fun k => [2, 3].getD k.toNat 0)), .blk g1 [v1, v2, .int .i64 11, .int .i64 1], .own vPcs1 1 22 ucs1 vvcs1, .sem (Frame.rows 3 ucs1 vvcs1 mlcs1 mfcs1), .own vXcs1 1 3 scs1.n (ints scs1.X), .own vYcs1 1 3 scs1.m (ints scs1.Y), .blk g2 [vPcs1, vXcs1, vYcs1, .int .i64 scs1.val, .int .i64 scs1.den], .own v3 1 3 2 (ints (fun k => [2, 1].getD k.toNat 0)), .own vapz1 1 3 napz1 (ints xapz1)] := hS.comp hS'; clear hS'
  refine zs4 ?_
  obtain ⟨z5, z6, z7, z8⟩ := prcMx hpzpz1
  refine zs3 ?_
  refine zlz ?_
  refine zs3 ?_
  refine zlb 24 ?_ ?_ <;> intro hc
  ·
   refine zs4 ?_
   refine zlb 28 ?_ ?_ <;> intro hc
   ·
    refine zlv (xfb 1 fd_32_1) ?_
    refine zlv (xfb 4 fd_30_3) ?_
    refine zlv (xlb 7 pl_3 hS) ?_
    refine zs3 ?_
    refine zlb 34 ?_ ?_ <;> intro hc
    ·
     refine zlv (xfb 1 fd_32_1) ?_
     refine zlv (xfb 3 fd_30_2) ?_
     refine zlv (xlb 7 pl_3 hS) ?_
     refine zlv (xfb 1 fd_32_1) ?_
     refine zlv (xfb 4 fd_30_3) ?_
     refine zlv (xlb 7 pl_3 hS) ?_
     refine zlv (xmul (r := 2 * scs1.den)) ?_
     refine zs3 ?_
     refine zlb 44 ?_ ?_ <;> intro hc
     ·
      refine zs4 ?_
      refine zlb 48 ?_ ?_ <;> intro hc
      ·
       refine zlv xmv ?_
       have hsm : napz1 = 2 ∧ ∀ k, 0 ≤ k → k < napz1 → xapz1 k = (fun k => [2, 0].getD k.toNat 0) k := ⟨z7, fun k k0 k1 => z8 k k0 (by omega)⟩
       refine zla (xli (n := 2) (len := 2) (pv := [(0, .int .i64 2), (1, .int .i64 0)]) (cs := [.int .i64 2, .int .i64 0]) (c := ints (fun k => [2, 0].getD k.toNat 0)) sl_22 el_3 hS) ?_; rintro v4 w ⟨hS, hv4⟩
       replace hS := hS.n11
       refine zlc (xc0 cl_19) (c_same28 (n := napz1) (m := 2) (f := xapz1) (g := (fun k => [2, 0].getD k.toNat 0)) w (hS.rowN 9 rfl) (hS.rowN 10 rfl)) ?_; rintro _ w ⟨rfl, hS'⟩
       replace hS := hS.cmp hS'; clear hS'
       refine zs2 ?_
       refine zlt <| zrt <| zf1 ⟨_, rfl, ?_⟩
       exact ⟨(true_B hsm).symm, hS.nl⟩
      iterate 3 refine zlo ?_
      refine zs2 ?_
      refine zlt <| zrt <| zf1 ⟨_, rfl, ?_⟩
      exfalso
      first | omega | exact absurd hsm ‹_›
     iterate 2 refine zlo ?_
     refine zs2 ?_
     iterate 3 refine zlo ?_
     refine zs2 ?_
     refine zlt <| zrt <| zf1 ⟨_, rfl, ?_⟩
     exfalso
     first | omega | exact absurd hsm ‹_›
    iterate 8 refine zlo ?_
    refine zs2 ?_
    iterate 2 refine zlo ?_
    refine zs2 ?_
    iterate 3 refine zlo ?_
    refine zs2 ?_
    refine zlt <| zrt <| zf1 ⟨_, rfl, ?_⟩
    exfalso
    first | omega | exact absurd hsm ‹_›
   iterate 4 refine zlo ?_
   refine zs2 ?_
   iterate 8 refine zlo ?_
   refine zs2 ?_
   iterate 2 refine zlo ?_
   refine zs2 ?_
   iterate 3 refine zlo ?_
   refine zs2 ?_
   refine zlt <| zrt <| zf1 ⟨_, rfl, ?_⟩
   exfalso
   first | omega | exact absurd hsm ‹_›
  iterate 2 refine zlo ?_
  refine zs2 ?_
  iterate 4 refine zlo ?_
  refine zs2 ?_
  iterate 8 refine zlo ?_
  refine zs2 ?_
  iterate 2 refine zlo ?_
  refine zs2 ?_
  iterate 3 refine zlo ?_
  refine zs2 ?_
  refine zlt <| zrt <| zf1 ⟨_, rfl, ?_⟩
  exfalso
  first | omega | exact absurd hsm ‹_›

set_option maxHeartbeats 4000000 in
set_option maxRecDepth 20000 in
theorem law_cbound {vL vD : Value} {p : Prob} {vW : Value} {nw : Int} {fw : Int → Int} {vU : Value} {u : Int} {pv : Int → Value} {len : Int → Int} {pt : Int → Int → Int} {cnt : Int → Int} (w0 : World) (h : PAt w0 vL vD p) (hW : Row w0 vW 1 nw (fun k => .int .u16 (fw k))) (hwb : ∀ k, 0 ≤ fw k ∧ fw k ≤ 65535) (hU : UAt w0 vU u pv len pt cnt) :
    Calls Try.prog 6 [.agg #[vL, vD, .int .i64 p.stock, .int .i64 p.kerf], vW, vU].toArray w0 fun e w => ∃ v, e = .returned v ∧ v = .bool true ∧ Sat w0 w [] := by
  have hm := h.L.slh.n0; have hm1 := h.L.slh.n1; have hd := h.D.slh.n0; have hd1 := h.D.slh.n1; have hs := h.is; have hk := h.ik
  have hu := hU.row.slh.n0; have hu1 := hU.row.slh.n1; have hnw := hW.slh.n0
  refine zenG Try.func6 Try.ntmps6 fun w hS => ?_
  refine zsr ?_
  refine zla (xbx (cs := [_, _, _, _]) hS) ?_; rintro _ w ⟨g1, rfl, hS⟩
  replace hS := hS.n1
  refine zlv xas ?_
  refine zlt <| zsq <| zsr ?_
  refine zlc (xc0 cl_9) (c_awake31 w) ?_; rintro _ w ⟨rfl, hS'⟩
  replace hS := hS.cmp hS'; clear hS'
  refine zs2 ?_
  refine zlv (xls 0 st_24 hS) ?_
  refine zlc (xc0 cl_10) (c_few28 (p := p) w (h.below hS.below)) ?_; rintro _ w ⟨rfl, hS'⟩
  replace hS := hS.cmp hS'; clear hS'
  refine zs3 ?_
  refine zlb 22 ?_ ?_ <;> intro hc
  ·
   iterate 3 refine zlo ?_
   refine zs2 ?_
   iterate 3 refine zlo ?_
   refine zlv xpt ?_
   refine zlt <| zct <| zsr ?_
   refine zlc (xc0 cl_9) (c_awake31 w) ?_; rintro _ w ⟨rfl, hS'⟩
   replace hS := hS.cmp hS'; clear hS'
   refine zlv xas ?_
   refine zlt <| zrt <| ztr <| zf1 ⟨_, rfl, ?_⟩
   exact ⟨rfl, hS.nl⟩
  refine zlv (xls 0 st_24 hS) ?_
  refine zlc (xc0 cl_11) (c_rvalid28 (p := p) w (h.below hS.below)) ?_; rintro _ w ⟨rfl, hS'⟩
  replace hS := hS.cmp hS'; clear hS'
  refine zs3 ?_
  refine zlb 27 ?_ ?_ <;> intro hc
  ·
   iterate 3 refine zlo ?_
   refine zlv xpt ?_
   refine zlt <| zct <| zsr ?_
   refine zlc (xc0 cl_9) (c_awake31 w) ?_; rintro _ w ⟨rfl, hS'⟩
   replace hS := hS.cmp hS'; clear hS'
   refine zlv xas ?_
   refine zlt <| zrt <| ztr <| zf1 ⟨_, rfl, ?_⟩
   exact ⟨rfl, hS.nl⟩
  refine zlv xmv ?_
  refine zlc (xc0 cl_20) (c_short w (hU.below hS.below)) ?_; rintro _ w ⟨rfl, hS'⟩
  replace hS := hS.cmp hS'; clear hS'
  refine zs2 ?_
  refine zlt ?_
  refine zcif ?_ ?_ <;> intro hc
  ·
   refine zsr ?_
   refine zlc (xc0 cl_9) (c_awake31 w) ?_; rintro _ w ⟨rfl, hS'⟩
   replace hS := hS.cmp hS'; clear hS'
   refine zlv xas ?_
   refine zlt <| zrt <| ztr <| zf1 ⟨_, rfl, ?_⟩
   exact ⟨rfl, hS.nl⟩
  refine zsk <| ztn <| zsr ?_
  refine zlv (xfb 0 fd_24_0) ?_
  refine zlv (xlb 0 pl_22 hS) ?_
  have hok : p.Ok := by first | assumption | exact Classical.not_not.1 ‹¬ ¬ p.Ok›
  have hfew : Few28 p := by first | assumption | exact Classical.not_not.1 ‹¬ ¬ Few28 p›
  have hm1 := hok.m1; have hm2 := hok.m2; have hmd := hok.d
  refine zlv (xln sl_22 h.L.slh) ?_
  refine zla (xmk sl_22 el_3 hS) ?_; rintro v1 w ⟨hS, hv1⟩
  replace hS := hS.n2
  refine zlv xas ?_
  refine zlt <| zsq <| zsr ?_
  refine zlv xmv ?_
  refine zlv (xln sl_22 hv1) ?_
  refine zlv xmv ?_
  refine zlt <| zbk <| zlp (fun mm M w => ∃ (i : Int) (fO : Int → Int), mm = ((p.m - i).toNat) ∧ (0 ≤ i) ∧ (i ≤ p.m) ∧ (∀ k, 0 ≤ k → k < p.m → 0 ≤ fO k ∧ fO k ≤ 1000) ∧ M = [(1, vW), (2, vU), (3, .pointer (some ⟨g1, 0, none⟩)), (6, .bool false), (7, v1), (38, .int .i64 p.m), (39, .int .i64 i)] ∧ Sat w0 w [.blk g1 [vL, vD, .int .i64 p.stock, .int .i64 p.kerf], .own v1 1 3 p.m (ints fO)]) ⟨0, (fun _ => 0), rfl, (by omega), (by omega), ?_, rfl, hS⟩ ?_
  ·
   intro k _ _; show (0 : Int) ≤ 0 ∧ (0 : Int) ≤ 1000; omega
  clear hS w
  rintro mm M w ⟨i, fO, rfl, h0, h1, hO, rfl, hS⟩
  refine zsr ?_
  refine zlv xlss ?_
  refine zlt <| zsq ?_
  refine zcif ?_ ?_ <;> intro hc
  ·
   refine zsk <| ztn <| zsq <| zbk <| zsr ?_
   refine zs2 ?_
   refine zlz ?_
   refine zs2 ?_
   refine zlv (xln sl_50 hW.slh) ?_
   refine zlv xlss ?_
   refine zlt ?_
   refine zcif ?_ ?_ <;> intro hc
   ·
    refine zrg ?_
    refine zs4 ?_
    refine zlv (xix (kk := i) sl_50 hW.slh) ?_
    refine zlv (xlr (u := .int .u16 (fw i)) pl_53 (hW.below hS.below)) ?_
    have hwi := hwb i
    have htr := Int.tmod_nonneg 1001 hwi.1; have htl := Int.tmod_lt_of_pos (fw i) (show (0 : Int) < 1001 by omega)
    refine zlv (xcv so_53 it_3) ?_
    refine zlv (xrem (r := (Int.tmod (fw i) 1001))) ?_
    refine zlv (xix (kk := i) sl_22 hv1) ?_
    refine zle (xso 1 pl_3 hS (upd_ints _ _ _)) ?_; clear hS; rintro w hS
    replace hS := hS.n2
    refine zln <| zbn <| ztn <| zrg ?_
    refine zlv (xadd (r := i + 1)) ?_
    refine zlv xmv ?_
    refine zln <| zlq ⟨i + 1, (upd fO i (Int.tmod (fw i) 1001)), rfl, (by omega), (by omega), ?_, rfl, hS⟩
    ·
     first | exact hO | (intro k k0 k1; unfold upd; split; omega; exact hO k k0 k1)
   refine zsk <| zbn <| ztn <| zrg ?_
   refine zlv (xadd (r := i + 1)) ?_
   refine zlv xmv ?_
   refine zln <| zlq ⟨i + 1, fO, rfl, (by omega), (by omega), ?_, rfl, hS⟩
   ·
    first | exact hO | (intro k k0 k1; unfold upd; split; omega; exact hO k k0 k1)
  refine zxt <| ztx <| ztx <| zbh <| ztn <| zsr ?_
  refine zlv (xls 0 st_24 hS) ?_
  refine zlv xmv ?_
  refine zlc (xc0 cl_17) (c_cbound (p := p) (n := p.m) (y := fO) w (h.below hS.below) (hS.rowN 1 rfl)) ?_; rintro _ w ⟨numbd1, denbd1, ebbd1, rfl, hbdbd1, hS'⟩
  replace hS := hS.cmp hS'; clear hS'
  refine zs2 ?_
  have hpr : PrcL p p.m fO := ⟨hok, rfl, fun k k0 k1 => by have := hO k k0 k1; omega⟩
  obtain ⟨b1, b2, b3, b4, b5⟩ := bound_rng hfew hpr (fun k k0 k1 => (hO k k0 k1).2) hbdbd1
  obtain ⟨b6, _, b7, b8⟩ := bound_law (b1 ▸ hbdbd1)
  refine zlv xex ?_
  refine zla (xal (cs := [_, _]) el_45 hS) ?_; rintro _ w ⟨g2, rfl, hS⟩
  replace hS := hS.n3
  refine zle (xsw 2 st_45 hS) ?_; clear hS; rintro w hS
  replace hS := hS.n3
  refine zlv xas ?_
  refine zlt <| zsq <| zsq ?_
  refine zdst [0, 1, 2] [0, 1, 2] 1000 mx_ hS ?_; clear hS; intro w hS
  refine zdv 0 (fun _ => xmv) ?_
  refine zdv 1 (fun _ => xneq) ?_
  refine zdv 2 (fun _ => xmv) ?_
  refine zdb 64 ?_ ?_ <;> intro hc
  ·
   refine zdof 3 ?_
   refine zdof 4 ?_
   refine zdof 5 ?_
   refine zdv 6 (fun _ => xpt) ?_
   refine zdv 7 (fun _ => xmv) ?_
   refine zdof 8 ?_
   refine zdof 9 ?_
   refine zdof 10 ?_
   refine zdof 11 ?_
   refine zdof 12 ?_
   refine zdof 13 ?_
   refine zdof 14 ?_
   refine zdof 16 ?_
   refine zdof 17 ?_
   refine zdof 15 ?_
   refine zdof 18 ?_
   refine zdof 19 ?_
   refine zdof 20 ?_
   refine zdv 21 (fun _ => xpt) ?_
   refine zdd <| ztn <| zct <| zsr ?_
   refine zlv xas ?_
   refine zlt <| zrt <| ztr <| zf1 ⟨_, rfl, ?_⟩
   exfalso
   first | omega | (have := b7 hU.row.slh.n0 (by assumption); omega)
  refine zdv 3 (fun _ => (xfb 1 fd_45_1)) ?_
  refine zdla 4 (fun w hS => (xlb 2 pl_3 hS)) ?_
  refine zdv 5 (fun _ => xlss) ?_
  refine zdv 6 (fun _ => xpf) ?_
  refine zdv 7 (fun _ => xmv) ?_
  refine zdb 69 ?_ ?_ <;> intro hc
  ·
   refine zdof 8 ?_
   refine zdof 9 ?_
   refine zdof 10 ?_
   refine zdof 11 ?_
   refine zdof 12 ?_
   refine zdof 13 ?_
   refine zdof 14 ?_
   refine zdof 16 ?_
   refine zdof 17 ?_
   refine zdof 15 ?_
   refine zdof 18 ?_
   refine zdof 19 ?_
   refine zdof 20 ?_
   refine zdv 21 (fun _ => xpt) ?_
   refine zdd <| ztn <| zct <| zsr ?_
   refine zlv xas ?_
   refine zlt <| zrt <| ztr <| zf1 ⟨_, rfl, ?_⟩
   exfalso
   first | omega | (have := b7 hU.row.slh.n0 (by assumption); omega)
  refine zdla 8 (fun w hS => (xls 0 st_24 hS)) ?_
  refine zdv 9 (fun _ => xmv) ?_
  refine zdc 10 (xc0 cl_21) (c_meets (p := p) w (h.below hS.below) (hU.below hS.below)) ?_; rintro _ w ⟨rfl, hS'⟩
  replace hS := hS.cmp hS'; clear hS'
  refine ⟨⟨fun _ => hS, hS⟩, ?_⟩
  refine zdv 11 (fun _ => xmv) ?_
  refine zdb 73 ?_ ?_ <;> intro hc
  ·
   refine zdv 12 (fun _ => (xfb 0 fd_45_0)) ?_
   refine zdla 13 (fun w hS => (xlb 2 pl_3 hS)) ?_
   refine zdv 14 (fun _ => xmv) ?_
   refine zdv 16 (fun _ => (xfb 1 fd_45_1)) ?_
   refine zdla 17 (fun w hS => (xlb 2 pl_3 hS)) ?_
   refine zdc 15 (xc0 cl_22) (c_bars w (hU.below hS.below) (by have := ((show MeetsP p u len pt cnt by first | assumption | exact Classical.not_not.1 ‹_›)).s.few; omega) (fun i a0 a1 => by have := (((show MeetsP p u len pt cnt by first | assumption | exact Classical.not_not.1 ‹_›)).s.all i a0 a1).2; omega)) ?_; rintro _ w ⟨rfl, hS'⟩
   replace hS := hS.cmp hS'; clear hS'
   have hbb := bars_bound (n := u) (cnt := cnt) (i := u) (by have := ((show MeetsP p u len pt cnt by first | assumption | exact Classical.not_not.1 ‹_›)).s.few; omega) (fun i a0 a1 => by have := (((show MeetsP p u len pt cnt by first | assumption | exact Classical.not_not.1 ‹_›)).s.all i a0 a1).2; omega) hu (Int.le_refl _)
   have r0 := mul_abs (a := sumTo cnt u.toNat) (b := denbd1) (A := 1000000) (B := 2100000) (by omega) (by omega)
   refine ⟨⟨fun _ => hS, hS⟩, ?_⟩
   refine zdv 18 (fun _ => (xmul (r := ((sumTo cnt u.toNat) * denbd1)) (e := rfl))) ?_
   refine zdv 19 (fun _ => xgtr) ?_
   refine zdv 20 (fun _ => xpt) ?_
   refine zdv 21 (fun _ => xpf) ?_
   refine zdd <| ztn ?_
   refine zcif ?_ ?_ <;> intro hc
   ·
    refine zsr ?_
    refine zlv xas ?_
    refine zlt <| zrt <| ztr <| zf1 ⟨_, rfl, ?_⟩
    exfalso
    first | omega | (have := b7 hU.row.slh.n0 (by assumption); omega)
   refine zsk <| ztn <| zsr ?_
   refine zlv (xls 0 st_24 hS) ?_
   refine zlc (xc0 cl_12) (c_csolve (p := p) w (h.below hS.below)) ?_; rintro _ w ⟨vPcs1, vvcs1, vXcs1, vYcs1, ucs1, mlcs1, mfcs1, scs1, ecs1, rfl, hcocs1, hvPcs1, hvXcs1, hvYcs1, hS'⟩
   replace hS : Sat w0 w [.blk g1 [vL, vD, .int .i64 p.stock, .int .i64 p.kerf], .own v1 1 3 p.m (ints fO), .blk g2 [.int .i64 numbd1, .int .i64 denbd1], .own vPcs1 1 22 ucs1 vvcs1, .sem (Frame.rows 3 ucs1 vvcs1 mlcs1 mfcs1), .own vXcs1 1 3 scs1.n (ints scs1.X), .own vYcs1 1 3 scs1.m (ints scs1.Y)] := hS.comp hS'; clear hS'
   have hrwcs1 := fun k (k0 : 0 ≤ k) (k1 : k < ucs1) => hS.slhIn 4 rfl k0 k1
   refine zs3 ?_
   refine zla (xal (cs := [_, _, _, _, _]) el_32 hS) ?_; rintro _ w ⟨g3, rfl, hS⟩
   replace hS := hS.n8
   refine zle (xsw 7 st_32 hS (hd := (ones_cons hvPcs1.one (ones_cons hvXcs1.one (ones_cons hvYcs1.one (ones_cons rfl (ones_cons rfl ones_nil))))))) ?_; clear hS; rintro w hS
   replace hS := hS.n8
   refine zlv xas ?_
   refine zlt <| zsq <| zsr ?_
   refine zs2 ?_
   refine zlt ?_
   refine zcif ?_ ?_ <;> intro hc
   ·
    refine zsr ?_
    refine zlv xas ?_
    refine zlt <| zrt <| ztr <| zf1 ⟨_, rfl, ?_⟩
    exact ⟨rfl, hS.nl⟩
   refine zsk <| ztn <| zsr ?_
   refine zlv (xls 0 st_24 hS) ?_
   obtain ⟨hmk, hwc⟩ := hcocs1.okS hvPcs1.n0 (by omega)
   have hd1 := hmk.d1; have hd2 := hmk.d2; have hv := hmk.v
   have hle := b8 hmk
   refine zlv (xfb 1 fd_32_1) ?_
   refine zlv (xfb 2 fd_30_1) ?_
   refine zlv (xlb 7 pl_22 hS) ?_
   refine zlc (xc0 cl_17) (c_cbound (p := p) (n := scs1.m) (y := scs1.Y) w (h.below hS.below) (hS.rowN 6 rfl)) ?_; rintro _ w ⟨numbd2, denbd2, ebbd2, rfl, hbdbd2, hS'⟩
   replace hS := hS.cmp hS'; clear hS'
   refine zs2 ?_
   obtain ⟨c1, c2, c3, c4, c5, c6⟩ := bound_own hmk hwc hbdbd2
   have r1 := mul_abs (a := numbd1) (b := scs1.den) (A := 750000) (B := 1073741824) (by omega) (by omega)
   have r2 := mul_abs (a := scs1.val) (b := denbd1) (A := 1073741824) (B := 2100000) (by omega) (by omega)
   have r3 := mul_abs (a := numbd2) (b := scs1.den) (A := 1073741824) (B := 1073741824) (by omega) (by omega)
   have r4 := mul_abs (a := scs1.val) (b := denbd2) (A := 1073741824) (B := 1073741824) (by omega) (by omega)
   refine zlv xex ?_
   refine zla (xal (cs := [_, _]) el_45 hS) ?_; rintro _ w ⟨g4, rfl, hS⟩
   replace hS := hS.n9
   refine zle (xsw 8 st_45 hS) ?_; clear hS; rintro w hS
   replace hS := hS.n9
   refine zlv xas ?_
   refine zlz ?_
   refine zs3 ?_
   refine zlb 101 ?_ ?_ <;> intro hc
   ·
    refine zlv (xfb 0 fd_45_0) ?_
    refine zlv (xlb 2 pl_3 hS) ?_
    refine zlv (xfb 1 fd_32_1) ?_
    refine zlv (xfb 4 fd_30_3) ?_
    refine zlv (xlb 7 pl_3 hS) ?_
    refine zlv (xmul (r := (numbd1 * scs1.den)) (e := rfl)) ?_
    refine zlv (xfb 1 fd_32_1) ?_
    refine zlv (xfb 3 fd_30_2) ?_
    refine zlv (xlb 7 pl_3 hS) ?_
    refine zlv (xfb 1 fd_45_1) ?_
    refine zlv (xlb 2 pl_3 hS) ?_
    refine zlv (xmul (r := (scs1.val * denbd1)) (e := rfl)) ?_
    refine zs3 ?_
    refine zlb 116 ?_ ?_ <;> intro hc
    ·
     refine zlv (xfb 0 fd_45_0) ?_
     refine zlv (xlb 8 pl_3 hS) ?_
     refine zlv (xfb 1 fd_32_1) ?_
     refine zlv (xfb 4 fd_30_3) ?_
     refine zlv (xlb 7 pl_3 hS) ?_
     refine zlv (xmul (r := (numbd2 * scs1.den)) (e := rfl)) ?_
     refine zlv (xfb 1 fd_32_1) ?_
     refine zlv (xfb 3 fd_30_2) ?_
     refine zlv (xlb 7 pl_3 hS) ?_
     refine zlv (xfb 1 fd_45_1) ?_
     refine zlv (xlb 8 pl_3 hS) ?_
     refine zlv (xmul (r := (scs1.val * denbd2)) (e := rfl)) ?_
     refine zs3 ?_
     refine zlt <| zrt <| zf1 ⟨_, rfl, ?_⟩
     exact ⟨(true_B (by omega)).symm, hS.nl⟩
    iterate 13 refine zlo ?_
    refine zs2 ?_
    refine zlt <| zrt <| zf1 ⟨_, rfl, ?_⟩
    exfalso
    first | omega | (have := b7 hU.row.slh.n0 (by assumption); omega)
   iterate 13 refine zlo ?_
   refine zs2 ?_
   iterate 13 refine zlo ?_
   refine zs2 ?_
   refine zlt <| zrt <| zf1 ⟨_, rfl, ?_⟩
   exfalso
   first | omega | (have := b7 hU.row.slh.n0 (by assumption); omega)
  refine zdof 12 ?_
  refine zdof 13 ?_
  refine zdof 14 ?_
  refine zdof 16 ?_
  refine zdof 17 ?_
  refine zdof 15 ?_
  refine zdof 18 ?_
  refine zdof 19 ?_
  refine zdv 20 (fun _ => xpf) ?_
  refine zdv 21 (fun _ => xpf) ?_
  refine zdd <| ztn <| zcf <| zsk <| ztn <| zsr ?_
  refine zlv (xls 0 st_24 hS) ?_
  refine zlc (xc0 cl_12) (c_csolve (p := p) w (h.below hS.below)) ?_; rintro _ w ⟨vPcs1, vvcs1, vXcs1, vYcs1, ucs1, mlcs1, mfcs1, scs1, ecs1, rfl, hcocs1, hvPcs1, hvXcs1, hvYcs1, hS'⟩
  replace hS : Sat w0 w [.blk g1 [vL, vD, .int .i64 p.stock, .int .i64 p.kerf], .own v1 1 3 p.m (ints fO), .blk g2 [.int .i64 numbd1, .int .i64 denbd1], .own vPcs1 1 22 ucs1 vvcs1, .sem (Frame.rows 3 ucs1 vvcs1 mlcs1 mfcs1), .own vXcs1 1 3 scs1.n (ints scs1.X), .own vYcs1 1 3 scs1.m (ints scs1.Y)] := hS.comp hS'; clear hS'
  have hrwcs1 := fun k (k0 : 0 ≤ k) (k1 : k < ucs1) => hS.slhIn 4 rfl k0 k1
  refine zs3 ?_
  refine zla (xal (cs := [_, _, _, _, _]) el_32 hS) ?_; rintro _ w ⟨g3, rfl, hS⟩
  replace hS := hS.n8
  refine zle (xsw 7 st_32 hS (hd := (ones_cons hvPcs1.one (ones_cons hvXcs1.one (ones_cons hvYcs1.one (ones_cons rfl (ones_cons rfl ones_nil))))))) ?_; clear hS; rintro w hS
  replace hS := hS.n8
  refine zlv xas ?_
  refine zlt <| zsq <| zsr ?_
  refine zs2 ?_
  refine zlt ?_
  refine zcif ?_ ?_ <;> intro hc
  ·
   refine zsr ?_
   refine zlv xas ?_
   refine zlt <| zrt <| ztr <| zf1 ⟨_, rfl, ?_⟩
   exact ⟨rfl, hS.nl⟩
  refine zsk <| ztn <| zsr ?_
  refine zlv (xls 0 st_24 hS) ?_
  obtain ⟨hmk, hwc⟩ := hcocs1.okS hvPcs1.n0 (by omega)
  have hd1 := hmk.d1; have hd2 := hmk.d2; have hv := hmk.v
  have hle := b8 hmk
  refine zlv (xfb 1 fd_32_1) ?_
  refine zlv (xfb 2 fd_30_1) ?_
  refine zlv (xlb 7 pl_22 hS) ?_
  refine zlc (xc0 cl_17) (c_cbound (p := p) (n := scs1.m) (y := scs1.Y) w (h.below hS.below) (hS.rowN 6 rfl)) ?_; rintro _ w ⟨numbd2, denbd2, ebbd2, rfl, hbdbd2, hS'⟩
  replace hS := hS.cmp hS'; clear hS'
  refine zs2 ?_
  obtain ⟨c1, c2, c3, c4, c5, c6⟩ := bound_own hmk hwc hbdbd2
  have r1 := mul_abs (a := numbd1) (b := scs1.den) (A := 750000) (B := 1073741824) (by omega) (by omega)
  have r2 := mul_abs (a := scs1.val) (b := denbd1) (A := 1073741824) (B := 2100000) (by omega) (by omega)
  have r3 := mul_abs (a := numbd2) (b := scs1.den) (A := 1073741824) (B := 1073741824) (by omega) (by omega)
  have r4 := mul_abs (a := scs1.val) (b := denbd2) (A := 1073741824) (B := 1073741824) (by omega) (by omega)
  refine zlv xex ?_
  refine zla (xal (cs := [_, _]) el_45 hS) ?_; rintro _ w ⟨g4, rfl, hS⟩
  replace hS := hS.n9
  refine zle (xsw 8 st_45 hS) ?_; clear hS; rintro w hS
  replace hS := hS.n9
  refine zlv xas ?_
  refine zlz ?_
  refine zs3 ?_
  refine zlb 101 ?_ ?_ <;> intro hc
  ·
   refine zlv (xfb 0 fd_45_0) ?_
   refine zlv (xlb 2 pl_3 hS) ?_
   refine zlv (xfb 1 fd_32_1) ?_
   refine zlv (xfb 4 fd_30_3) ?_
   refine zlv (xlb 7 pl_3 hS) ?_
   refine zlv (xmul (r := (numbd1 * scs1.den)) (e := rfl)) ?_
   refine zlv (xfb 1 fd_32_1) ?_
   refine zlv (xfb 3 fd_30_2) ?_
   refine zlv (xlb 7 pl_3 hS) ?_
   refine zlv (xfb 1 fd_45_1) ?_
   refine zlv (xlb 2 pl_3 hS) ?_
   refine zlv (xmul (r := (scs1.val * denbd1)) (e := rfl)) ?_
   refine zs3 ?_
   refine zlb 116 ?_ ?_ <;> intro hc
   ·
    refine zlv (xfb 0 fd_45_0) ?_
    refine zlv (xlb 8 pl_3 hS) ?_
    refine zlv (xfb 1 fd_32_1) ?_
    refine zlv (xfb 4 fd_30_3) ?_
    refine zlv (xlb 7 pl_3 hS) ?_
    refine zlv (xmul (r := (numbd2 * scs1.den)) (e := rfl)) ?_
    refine zlv (xfb 1 fd_32_1) ?_
    refine zlv (xfb 3 fd_30_2) ?_
    refine zlv (xlb 7 pl_3 hS) ?_
    refine zlv (xfb 1 fd_45_1) ?_
    refine zlv (xlb 8 pl_3 hS) ?_
    refine zlv (xmul (r := (scs1.val * denbd2)) (e := rfl)) ?_
    refine zs3 ?_
    refine zlt <| zrt <| zf1 ⟨_, rfl, ?_⟩
    exact ⟨(true_B (by omega)).symm, hS.nl⟩
   iterate 13 refine zlo ?_
   refine zs2 ?_
   refine zlt <| zrt <| zf1 ⟨_, rfl, ?_⟩
   exfalso
   first | omega | (have := b7 hU.row.slh.n0 (by assumption); omega)
  iterate 13 refine zlo ?_
  refine zs2 ?_
  iterate 13 refine zlo ?_
  refine zs2 ?_
  refine zlt <| zrt <| zf1 ⟨_, rfl, ?_⟩
  exfalso
  first | omega | (have := b7 hU.row.slh.n0 (by assumption); omega)

end Go.Proofs.Ytdlojjhknmmmlaa
