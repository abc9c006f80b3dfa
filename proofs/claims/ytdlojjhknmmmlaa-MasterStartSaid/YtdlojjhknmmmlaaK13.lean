/- The walk of ColumnFinal. -/
import Derived.Test.YtdlojjhknmmmlaaGv
import Derived.Test.YtdlojjhknmmmlaaK8
import Derived.Test.YtdlojjhknmmmlaaFq
namespace Go.Proofs.Ytdlojjhknmmmlaa
open Go Go.RowKit Go.Proofs.Gw
set_option linter.unusedVariables false

theorem cl_10 : calledT Try.prog 10 = true := by kernel_rfl
theorem cl_12 : calledT Try.prog 12 = true := by kernel_rfl
theorem cl_13 : calledT Try.prog 13 = true := by kernel_rfl
theorem cl_14 : calledT Try.prog 14 = true := by kernel_rfl
theorem cl_17 : calledT Try.prog 17 = true := by kernel_rfl
theorem cl_20 : calledT Try.prog 20 = true := by kernel_rfl
theorem cl_21 : calledT Try.prog 21 = true := by kernel_rfl
theorem cl_22 : calledT Try.prog 22 = true := by kernel_rfl
theorem cl_9 : calledT Try.prog 9 = true := by kernel_rfl
theorem el_24 : elemT Try.prog 24 = some (.agg #[.slice none 0 0, .slice none 0 0, .int .i64 0, .int .i64 0], 4, 64) := by kernel_rfl
theorem fd_32_0 : fieldT Try.prog 32 0 = some 0 := by kernel_rfl
theorem fd_45_0 : fieldT Try.prog 45 0 = some 0 := by kernel_rfl
theorem fd_45_1 : fieldT Try.prog 45 1 = some 1 := by kernel_rfl
theorem pl_5 : plainT Try.prog 5 = true := by kernel_rfl
theorem pl_53 : plainT Try.prog 53 = true := by kernel_rfl
theorem sl_25 : sliceT Try.prog 25 = some (5, 1) := by kernel_rfl
theorem sl_50 : sliceT Try.prog 50 = some (53, 1) := by kernel_rfl
theorem so_5 : (Try.prog.underlying 5).isSome = true := by kernel_rfl
theorem so_53 : (Try.prog.underlying 53).isSome = true := by kernel_rfl
theorem crnMx {u e : Int} {ml : Int → Int} {mf : Int → Int → Int} (h : CRn pMx u ml mf e) : u = stN pMx 2 ∧ ml = stL pMx 2 ∧ mf = stG pMx 2 ∧ e = 0 := by
  induction h with
  | start h =>
    rcases h with ⟨h, _⟩ | ⟨_, h1, h2, h3, h4⟩
    · exact absurd okMx h
    · exact ⟨h1, h2, h3, h4⟩
  | go h hs hp hn ih =>
    exfalso
    obtain ⟨rfl, rfl, rfl, _⟩ := ih
    obtain ⟨_, rfl⟩ := solMx hs
    rcases hp with ⟨hp, _⟩ | ⟨_, _, _, _, hw, hf⟩
    · exact hp ⟨okMx, by decide +kernel, bnd (by decide +kernel)⟩
    · refine hn ⟨hf, ?_⟩
      rw [hw]; decide +kernel
theorem colMx {u e : Int} {ml : Int → Int} {mf : Int → Int → Int} {s : So} (h : ColR pMx u ml mf s e) : e = 0 ∧ 0 < s.den ∧ s.val = 2 * s.den ∧ s.den ≤ 1073741824 := by
  rcases h with ⟨h, _⟩ | ⟨_, h1, _, _, u1, ml1, mf1, e1, h2, h3⟩ | ⟨_, h1, h2, h3, _⟩
  · exact absurd okMx h
  · exfalso
    obtain ⟨rfl, rfl, rfl, he⟩ := crnMx h2
    rcases h3 with ⟨h3, _⟩ | ⟨_, s1, h3⟩
    · exact h3 he
    · exact h1 (solMx h3).1
  · obtain ⟨rfl, rfl, rfl, _⟩ := crnMx h2
    obtain ⟨_, rfl⟩ := solMx h3
    exact ⟨h1, by decide +kernel, by decide +kernel, by decide +kernel⟩
def yMx : Int → Int := fun k => [2, 1].getD k.toNat 0
def xMx : Int → Int := fun k => [2, 0].getD k.toNat 0
theorem kxMx : KX (itsOf pMx yMx) (pMx.stock + pMx.kerf) xMx pMx.m := by
  intro i i0 i1
  have hm : pMx.m = 2 := rfl
  have : i = 0 ∨ i = 1 := by omega
  rcases this with rfl | rfl
  · refine ⟨by decide +kernel, by decide +kernel, by decide +kernel, by decide +kernel, fun j j0 j1 _ => ?_⟩
    have h2 : (itsOf pMx yMx).M 0 = 2 := by decide +kernel
    have h3 : xMx 0 = 2 := by decide +kernel
    omega
  · refine ⟨by decide +kernel, by decide +kernel, by decide +kernel, by decide +kernel, fun j j0 _ j2 => ?_⟩
    have h2 : (itsOf pMx yMx).S 1 = 4 := by decide +kernel
    have h3 : xMx 1 = 0 := by decide +kernel
    have h4 : pMx.stock + pMx.kerf - KU (itsOf pMx yMx) xMx (1 : Int).toNat = 0 := by decide +kernel
    rw [h2, h4] at j2; omega
theorem prcMx {na worth e : Int} {a : Int → Int} (h : PriceR pMx 2 yMx na a worth e) : e = 0 ∧ worth = 4 ∧ na = 2 ∧ ∀ k, 0 ≤ k → k < 2 → a k = xMx k := by
  rcases h with ⟨h, _⟩ | ⟨_, h1, h2, _, h3, h4⟩
  · exact absurd ⟨okMx, by decide +kernel, bnd (by decide +kernel)⟩ h
  · refine ⟨h4, by rw [h3]; decide +kernel, h1, fun k k0 k1 => ?_⟩
    rw [h2]; exact (aC_eq (by decide +kernel) kxMx k k0 k1).symm

set_option maxHeartbeats 4000000 in
set_option maxRecDepth 20000 in
theorem c_awake31  (w0 : World) :
    Calls Try.prog 9 [].toArray w0 fun e w => ∃ v, e = .returned v ∧ v = .bool true ∧ Sat w0 w [] := by
  refine zenG Try.func9 Try.ntmps9 fun w hS => ?_
  refine zsr ?_
  refine zlv xas ?_
  refine zlz ?_
  refine zla (xli (n := 2) (len := 2) (pv := [(0, .int .i64 5), (1, .int .i64 3)]) (cs := [.int .i64 5, .int .i64 3]) (c := ints (fun k => [5, 3].getD k.toNat 0)) sl_22 el_3 hS) ?_; rintro v1 w ⟨hS, hv1⟩
  replace hS := hS.n1
  refine zla (xli (n := 2) (len := 2) (pv := [(0, .int .i64 2), (1, .int .i64 3)]) (cs := [.int .i64 2, .int .i64 3]) (c := ints (fun k => [2, 3].getD k.toNat 0)) sl_22 el_3 hS) ?_; rintro v2 w ⟨hS, hv2⟩
  replace hS := hS.n2
  refine zlv (xany (v := .agg #[v1, v2, .int .i64 11, .int .i64 1]) (hr := by obtain ⟨_, _, _, _, rfl, _⟩ := hv1; obtain ⟨_, _, _, _, rfl, _⟩ := hv2; kernel_rfl)) ?_
  refine zla (xal (cs := [_, _, _, _]) el_36 hS) ?_; rintro _ w ⟨g1, rfl, hS⟩
  replace hS := hS.n3
  refine zle (xsw 2 st_36 hS (hd := (ones_cons hv1.one (ones_cons hv2.one (ones_cons rfl (ones_cons rfl ones_nil)))))) ?_; clear hS; rintro w hS
  replace hS := hS.n3
  refine zlz ?_
  refine zlv (xls 2 st_36 hS) ?_
  refine zlc (xc0 cl_12) (c_csolve (p := (⟨2, (fun k => [5, 3].getD k.toNat 0), 2, (fun k => [2, 3].getD k.toNat 0), 11, 1⟩ : Prob)) w (⟨(hS.rowN 0 rfl), (hS.rowN 1 rfl), (litb _ (by decide)), (litb _ (by decide)), (by (try dsimp only); omega), (by (try dsimp only); omega)⟩ : PAt _ _ _ (⟨2, (fun k => [5, 3].getD k.toNat 0), 2, (fun k => [2, 3].getD k.toNat 0), 11, 1⟩ : Prob))) ?_; rintro _ w ⟨vPcs1, vvcs1, vXcs1, vYcs1, ucs1, mlcs1, mfcs1, scs1, ecs1, rfl, hcocs1, hvPcs1, hvXcs1, hvYcs1, hS'⟩
  replace hS : Sat w0 w [.own v1 1 3 2 (ints (fun k => [5, 3].getD k.toNat 0)), .own v2 1 3 2 (ints (fun k => [2, 3].getD k.toNat 0)), .blk g1 [v1, v2, .int .i64 11, .int .i64 1], .own vPcs1 1 22 ucs1 vvcs1, .sem (Frame.rows 3 ucs1 vvcs1 mlcs1 mfcs1), .own vXcs1 1 3 scs1.n (ints scs1.X), .own vYcs1 1 3 scs1.m (ints scs1.Y)] := hS.comp hS'; clear hS'
  have hrwcs1 := fun k (k0 : 0 ≤ k) (k1 : k < ucs1) => hS.slhIn 4 rfl k0 k1
  refine zs3 ?_
  obtain ⟨z1, z2, z3, z4⟩ := colMx hcocs1
  refine zla (xal (cs := [_, _, _, _, _]) el_32 hS) ?_; rintro _ w ⟨g2, rfl, hS⟩
  replace hS := hS.n8
  refine zle (xsw 7 st_32 hS (hd := (ones_cons hvPcs1.one (ones_cons hvXcs1.one (ones_cons hvYcs1.one (ones_cons rfl (ones_cons rfl ones_nil))))))) ?_; clear hS; rintro w hS
  replace hS := hS.n8
  refine zlv xas ?_
  refine zlz ?_
  refine zlv (xls 2 st_36 hS) ?_
  refine zla (xli (n := 2) (len := 2) (pv := [(0, .int .i64 2), (1, .int .i64 1)]) (cs := [.int .i64 2, .int .i64 1]) (c := ints (fun k => [2, 1].getD k.toNat 0)) sl_22 el_3 hS) ?_; rintro v3 w ⟨hS, hv3⟩
  replace hS := hS.n9
  refine zlc (xc0 cl_15) (c_price (p := (⟨2, (fun k => [5, 3].getD k.toNat 0), 2, (fun k => [2, 3].getD k.toNat 0), 11, 1⟩ : Prob)) (n := 2) (y := (fun k => [2, 1].getD k.toNat 0)) w (⟨(hS.rowN 0 rfl), (hS.rowN 1 rfl), (litb _ (by decide)), (litb _ (by decide)), (by (try dsimp only); omega), (by (try dsimp only); omega)⟩ : PAt _ _ _ (⟨2, (fun k => [5, 3].getD k.toNat 0), 2, (fun k => [2, 3].getD k.toNat 0), 11, 1⟩ : Prob)) (hS.rowN 8 rfl)) ?_; rintro _ w ⟨vapz1, napz1, xapz1, wapz1, eapz1, rfl, hpzpz1, hvapz1, hS'⟩
  replace hS : Sat w0 w [.own v1 1 3 2 (ints (fun k => [5, 3].getD k.toNat 0)), .own v2 1 3 2 (ints (fun k => [2, 3].getD k.toNat 0)), .blk g1 [v1, v2, .int .i64 11, .int .i64 1], .own vPcs1 1 22 ucs1 vvcs1, .sem (Frame.rows 3 ucs1 vvcs1 mlcs1 mfcs1), .own vXcs1 1 3 scs1.n (ints scs1.X), .own vYcs1 1 3 scs1.m (ints scs1.Y), .blk g2 [vPcs1, vXcs1, vYcs1, .int .i64 scs1.val, .int .i64 scs1.den], .own v3 1 3 2 (ints (fun k => [2, 1].getD k.toNat 0)), .own vapz1 1 3 napz1 (ints xapz1)] := hS.comp hS'; clear hS'
  refine zs4 ?_
  obtain ⟨z5, z6, z7, z8⟩ := prcMx hpzpz1
  refine zs3 ?_
  refine zlz ?_
  refine zs3 ?_
  refine zlb 24 ?_ ?_ <;> intro hc
  ·
   refine zs4 ?_
   refine zlb 28 ?_ ?_ <;> intro hc
   ·
    refine zlv (xfb 1 fd_32_1) ?_
    refine zlv (xfb 4 fd_30_3) ?_
    refine zlv (xlb 7 pl_3 hS) ?_
    refine zs3 ?_
    refine zlb 34 ?_ ?_ <;> intro hc
    ·
     refine zlv (xfb 1 fd_32_1) ?_
     refine zlv (xfb 3 fd_30_2) ?_
     refine zlv (xlb 7 pl_3 hS) ?_
     refine zlv (xfb 1 fd_32_1) ?_
     refine zlv (xfb 4 fd_30_3) ?_
     refine zlv (xlb 7 pl_3 hS) ?_
     refine zlv (xmul (r := 2 * scs1.den)) ?_
     refine zs3 ?_
     refine zlb 44 ?_ ?_ <;> intro hc
     ·
      refine zs4 ?_
      refine zlb 48 ?_ ?_ <;> intro hc
      ·
       refine zlv xmv ?_
       have hsm : napz1 = 2 ∧ ∀ k, 0 ≤ k → k < napz1 → xapz1 k = (fun k => [2, 0].getD k.toNat 0) k := ⟨z7, fun k k0 k1 => z8 k k0 (by omega)⟩
       refine zla (xli (n := 2) (len := 2) (pv := [(0, .int .i64 2), (1, .int .i64 0)]) (cs := [.int .i64 2, .int .i64 0]) (c := ints (fun k => [2, 0].getD k.toNat 0)) sl_22 el_3 hS) ?_; rintro v4 w ⟨hS, hv4⟩
       replace hS := hS.n11
       refine zlc (xc0 cl_19) (c_same28 (n := napz1) (m := 2) (f := xapz1) (g := (fun k => [2, 0].getD k.toNat 0)) w (hS.rowN 9 rfl) (hS.rowN 10 rfl)) ?_; rintro _ w ⟨rfl, hS'⟩
       replace hS := hS.cmp hS'; clear hS'
       refine zs2 ?_
       refine zlt <| zrt <| zf1 ⟨_, rfl, ?_⟩
       exact ⟨(true_B hsm).symm, hS.nl⟩
      iterate 3 refine zlo ?_
      refine zs2 ?_
      refine zlt <| zrt <| zf1 ⟨_, rfl, ?_⟩
      exfalso
      first | omega | exact absurd hsm ‹_›
     iterate 2 refine zlo ?_
     refine zs2 ?_
     iterate 3 refine zlo ?_
     refine zs2 ?_
     refine zlt <| zrt <| zf1 ⟨_, rfl, ?_⟩
     exfalso
     first | omega | exact absurd hsm ‹_›
    iterate 8 refine zlo ?_
    refine zs2 ?_
    iterate 2 refine zlo ?_
    refine zs2 ?_
    iterate 3 refine zlo ?_
    refine zs2 ?_
    refine zlt <| zrt <| zf1 ⟨_, rfl, ?_⟩
    exfalso
    first | omega | exact absurd hsm ‹_›
   iterate 4 refine zlo ?_
   refine zs2 ?_
   iterate 8 refine zlo ?_
   refine zs2 ?_
   iterate 2 refine zlo ?_
   refine zs2 ?_
   iterate 3 refine zlo ?_
   refine zs2 ?_
   refine zlt <| zrt <| zf1 ⟨_, rfl, ?_⟩
   exfalso
   first | omega | exact absurd hsm ‹_›
  iterate 2 refine zlo ?_
  refine zs2 ?_
  iterate 4 refine zlo ?_
  refine zs2 ?_
  iterate 8 refine zlo ?_
  refine zs2 ?_
  iterate 2 refine zlo ?_
  refine zs2 ?_
  iterate 3 refine zlo ?_
  refine zs2 ?_
  refine zlt <| zrt <| zf1 ⟨_, rfl, ?_⟩
  exfalso
  first | omega | exact absurd hsm ‹_›

set_option maxHeartbeats 4000000 in
set_option maxRecDepth 20000 in
theorem law_cbound {vL vD : Value} {p : Prob} {vW : Value} {nw : Int} {fw : Int → Int} {vU : Value} {u : Int} {pv : Int → Value} {len : Int → Int} {pt : Int → Int → Int} {cnt : Int → Int} (w0 : World) (h : PAt w0 vL vD p) (hW : Row w0 vW 1 nw (fun k => .int .u16 (fw k))) (hwb : ∀ k, 0 ≤ fw k ∧ fw k ≤ 65535) (hU : UAt w0 vU u pv len pt cnt) :
    Calls Try.prog 6 [.agg #[vL, vD, .int .i64 p.stock, .int .i64 p.kerf], vW, vU].toArray w0 fun e w => ∃ v, e = .returned v ∧ v = .bool true ∧ Sat w0 w [] := by
  have hm := h.L.slh.n0; have hm1 := h.L.slh.n1; have hd := h.D.slh.n0; have hd1 := h.D.slh.n1; have hs := h.is; have hk := h.ik
  have hu := hU.row.slh.n0; have hu1 := hU.row.slh.n1; have hnw := hW.slh.n0
  refine zenG Try.func6 Try.ntmps6 fun w hS => ?_
  refine zsr ?_
  refine zla (xbx (cs := [_, _, _, _]) hS) ?_; rintro _ w ⟨g1, rfl, hS⟩
  replace hS := hS.n1
  refine zlv xas ?_
  refine zlt <| zsq <| zsr ?_
  refine zlc (xc0 cl_9) (c_awake31 w) ?_; rintro _ w ⟨rfl, hS'⟩
  replace hS := hS.cmp hS'; clear hS'
  refine zs2 ?_
  refine zlv (xls 0 st_24 hS) ?_
  refine zlc (xc0 cl_10) (c_few28 (p := p) w (h.below hS.below)) ?_; rintro _ w ⟨rfl, hS'⟩
  replace hS := hS.cmp hS'; clear hS'
  refine zs3 ?_
  refine zlb 22 ?_ ?_ <;> intro hc
  ·
   iterate 3 refine zlo ?_
   refine zs2 ?_
   iterate 3 refine zlo ?_
   refine zlv xpt ?_
   refine zlt <| zct <| zsr ?_
   refine zlc (xc0 cl_9) (c_awake31 w) ?_; rintro _ w ⟨rfl, hS'⟩
   replace hS := hS.cmp hS'; clear hS'
   refine zlv xas ?_
   refine zlt <| zrt <| ztr <| zf1 ⟨_, rfl, ?_⟩
   exact ⟨rfl, hS.nl⟩
  refine zlv (xls 0 st_24 hS) ?_
  refine zlc (xc0 cl_11) (c_rvalid28 (p := p) w (h.below hS.below)) ?_; rintro _ w ⟨rfl, hS'⟩
  replace hS := hS.cmp hS'; clear hS'
  refine zs3 ?_
  refine zlb 27 ?_ ?_ <;> intro hc
  ·
   iterate 3 refine zlo ?_
   refine zlv xpt ?_
   refine zlt <| zct <| zsr ?_
   refine zlc (xc0 cl_9) (c_awake31 w) ?_; rintro _ w ⟨rfl, hS'⟩
   replace hS := hS.cmp hS'; clear hS'
   refine zlv xas ?_
   refine zlt <| zrt <| ztr <| zf1 ⟨_, rfl, ?_⟩
   exact ⟨rfl, hS.nl⟩
  refine zlv xmv ?_
  refine zlc (xc0 cl_20) (c_short w (hU.below hS.below)) ?_; rintro _ w ⟨rfl, hS'⟩
  replace hS := hS.cmp hS'; clear hS'
  refine zs2 ?_
  refine zlt ?_
  refine zcif ?_ ?_ <;> intro hc
  ·
   refine zsr ?_
   refine zlc (xc0 cl_9) (c_awake31 w) ?_; rintro _ w ⟨rfl, hS'⟩
   replace hS := hS.cmp hS'; clear hS'
   refine zlv xas ?_
   refine zlt <| zrt <| ztr <| zf1 ⟨_, rfl, ?_⟩
   exact ⟨rfl, hS.nl⟩
  refine zsk <| ztn <| zsr ?_
  refine zlv (xfb 0 fd_24_0) ?_
  refine zlv (xlb 0 pl_22 hS) ?_
  have hok : p.Ok := by first | assumption | exact Classical.not_not.1 ‹¬ ¬ p.Ok›
  have hfew : Few28 p := by first | assumption | exact Classical.not_not.1 ‹¬ ¬ Few28 p›
  have hm1 := hok.m1; have hm2 := hok.m2; have hmd := hok.d
  refine zlv (xln sl_22 h.L.slh) ?_
  refine zla (xmk sl_22 el_3 hS) ?_; rintro v1 w ⟨hS, hv1⟩
  replace hS := hS.n2
  refine zlv xas ?_
  refine zlt <| zsq <| zsr ?_
  refine zlv xmv ?_
  refine zlv (xln sl_22 hv1) ?_
  refine zlv xmv ?_
  refine zlt <| zbk <| zlp (fun mm M w => ∃ (i : Int) (fO : Int → Int), mm = ((p.m - i).toNat) ∧ (0 ≤ i) ∧ (i ≤ p.m) ∧ (∀ k, 0 ≤ k → k < p.m → 0 ≤ fO k ∧ fO k ≤ 1000) ∧ M = [(1, vW), (2, vU), (3, .pointer (some ⟨g1, 0, none⟩)), (6, .bool false), (7, v1), (38, .int .i64 p.m), (39, .int .i64 i)] ∧ Sat w0 w [.blk g1 [vL, vD, .int .i64 p.stock, .int .i64 p.kerf], .own v1 1 3 p.m (ints fO)]) ⟨0, (fun _ => 0), rfl, (by omega), (by omega), ?_, rfl, hS⟩ ?_
  ·
   intro k _ _; show (0 : Int) ≤ 0 ∧ (0 : Int) ≤ 1000; omega
  clear hS w
  rintro mm M w ⟨i, fO, rfl, h0, h1, hO, rfl, hS⟩
  refine zsr ?_
  refine zlv xlss ?_
  refine zlt <| zsq ?_
  refine zcif ?_ ?_ <;> intro hc
  ·
   refine zsk <| ztn <| zsq <| zbk <| zsr ?_
   refine zs2 ?_
   refine zlz ?_
   refine zs2 ?_
   refine zlv (xln sl_50 hW.slh) ?_
   refine zlv xlss ?_
   refine zlt ?_
   refine zcif ?_ ?_ <;> intro hc
   ·
    refine zrg ?_
    refine zs4 ?_
    refine zlv (xix (kk := i) sl_50 hW.slh) ?_
    refine zlv (xlr (u := .int .u16 (fw i)) pl_53 (hW.below hS.below)) ?_
    have hwi := hwb i
    have htr := Int.tmod_nonneg 1001 hwi.1; have htl := Int.tmod_lt_of_pos (fw i) (show (0 : Int) < 1001 by omega)
    refine zlv (xcv so_53 it_3) ?_
    refine zlv (xrem (r := (Int.tmod (fw i) 1001))) ?_
    refine zlv (xix (kk := i) sl_22 hv1) ?_
    refine zle (xso 1 pl_3 hS (upd_ints _ _ _)) ?_; clear hS; rintro w hS
    replace hS := hS.n2
    refine zln <| zbn <| ztn <| zrg ?_
    refine zlv (xadd (r := i + 1)) ?_
    refine zlv xmv ?_
    refine zln <| zlq ⟨i + 1, (upd fO i (Int.tmod (fw i) 1001)), rfl, (by omega), (by omega), ?_, rfl, hS⟩
    ·
     first | exact hO | (intro k k0 k1; unfold upd; split; omega; exact hO k k0 k1)
   refine zsk <| zbn <| ztn <| zrg ?_
   refine zlv (xadd (r := i + 1)) ?_
   refine zlv xmv ?_
   refine zln <| zlq ⟨i + 1, fO, rfl, (by omega), (by omega), ?_, rfl, hS⟩
   ·
    first | exact hO | (intro k k0 k1; unfold upd; split; omega; exact hO k k0 k1)
  refine zxt <| ztx <| ztx <| zbh <| ztn <| zsr ?_
  refine zlv (xls 0 st_24 hS) ?_
  refine zlv xmv ?_
  refine zlc (xc0 cl_17) (c_cbound (p := p) (n := p.m) (y := fO) w (h.below hS.below) (hS.rowN 1 rfl)) ?_; rintro _ w ⟨numbd1, denbd1, ebbd1, rfl, hbdbd1, hS'⟩
  replace hS := hS.cmp hS'; clear hS'
  refine zs2 ?_
  have hpr : PrcL p p.m fO := ⟨hok, rfl, fun k k0 k1 => by have := hO k k0 k1; omega⟩
  obtain ⟨b1, b2, b3, b4, b5⟩ := bound_rng hfew hpr (fun k k0 k1 => (hO k k0 k1).2) hbdbd1
  obtain ⟨b6, _, b7, b8⟩ := bound_law (b1 ▸ hbdbd1)
  refine zlv xex ?_
  refine zla (xal (cs := [_, _]) el_45 hS) ?_; rintro _ w ⟨g2, rfl, hS⟩
  replace hS := hS.n3
  refine zle (xsw 2 st_45 hS) ?_; clear hS; rintro w hS
  replace hS := hS.n3
  refine zlv xas ?_
  refine zlt <| zsq <| zsq ?_
  refine zdst [0, 1, 2] [0, 1, 2] 1000 mx_ hS ?_; clear hS; intro w hS
  refine zdv 0 (fun _ => xmv) ?_
  refine zdv 1 (fun _ => xneq) ?_
  refine zdv 2 (fun _ => xmv) ?_
  refine zdb 64 ?_ ?_ <;> intro hc
  ·
   refine zdof 3 ?_
   refine zdof 4 ?_
   refine zdof 5 ?_
   refine zdv 6 (fun _ => xpt) ?_
   refine zdv 7 (fun _ => xmv) ?_
   refine zdof 8 ?_
   refine zdof 9 ?_
   refine zdof 10 ?_
   refine zdof 11 ?_
   refine zdof 12 ?_
   refine zdof 13 ?_
   refine zdof 14 ?_
   refine zdof 16 ?_
   refine zdof 17 ?_
   refine zdof 15 ?_
   refine zdof 18 ?_
   refine zdof 19 ?_
   refine zdof 20 ?_
   refine zdv 21 (fun _ => xpt) ?_
   refine zdd <| ztn <| zct <| zsr ?_
   refine zlv xas ?_
   refine zlt <| zrt <| ztr <| zf1 ⟨_, rfl, ?_⟩
   exfalso
   first | omega | (have := b7 hU.row.slh.n0 (by assumption); omega)
  refine zdv 3 (fun _ => (xfb 1 fd_45_1)) ?_
  refine zdla 4 (fun w hS => (xlb 2 pl_3 hS)) ?_
  refine zdv 5 (fun _ => xlss) ?_
  refine zdv 6 (fun _ => xpf) ?_
  refine zdv 7 (fun _ => xmv) ?_
  refine zdb 69 ?_ ?_ <;> intro hc
  ·
   refine zdof 8 ?_
   refine zdof 9 ?_
   refine zdof 10 ?_
   refine zdof 11 ?_
   refine zdof 12 ?_
   refine zdof 13 ?_
   refine zdof 14 ?_
   refine zdof 16 ?_
   refine zdof 17 ?_
   refine zdof 15 ?_
   refine zdof 18 ?_
   refine zdof 19 ?_
   refine zdof 20 ?_
   refine zdv 21 (fun _ => xpt) ?_
   refine zdd <| ztn <| zct <| zsr ?_
   refine zlv xas ?_
   refine zlt <| zrt <| ztr <| zf1 ⟨_, rfl, ?_⟩
   exfalso
   first | omega | (have := b7 hU.row.slh.n0 (by assumption); omega)
  refine zdla 8 (fun w hS => (xls 0 st_24 hS)) ?_
  refine zdv 9 (fun _ => xmv) ?_
  refine zdc 10 (xc0 cl_21) (c_meets (p := p) w (h.below hS.below) (hU.below hS.below)) ?_; rintro _ w ⟨rfl, hS'⟩
  replace hS := hS.cmp hS'; clear hS'
  refine ⟨⟨fun _ => hS, hS⟩, ?_⟩
  refine zdv 11 (fun _ => xmv) ?_
  refine zdb 73 ?_ ?_ <;> intro hc
  ·
   refine zdv 12 (fun _ => (xfb 0 fd_45_0)) ?_
   refine zdla 13 (fun w hS => (xlb 2 pl_3 hS)) ?_
   refine zdv 14 (fun _ => xmv) ?_
   refine zdv 16 (fun _ => (xfb 1 fd_45_1)) ?_
   refine zdla 17 (fun w hS => (xlb 2 pl_3 hS)) ?_
   refine zdc 15 (xc0 cl_22) (c_bars w (hU.below hS.below) (by have := ((show MeetsP p u len pt cnt by first | assumption | exact Classical.not_not.1 ‹_›)).s.few; omega) (fun i a0 a1 => by have := (((show MeetsP p u len pt cnt by first | assumption | exact Classical.not_not.1 ‹_›)).s.all i a0 a1).2; omega)) ?_; rintro _ w ⟨rfl, hS'⟩
   replace hS := hS.cmp hS'; clear hS'
   have hbb := bars_bound (n := u) (cnt := cnt) (i := u) (by have := ((show MeetsP p u len pt cnt by first | assumption | exact Classical.not_not.1 ‹_›)).s.few; omega) (fun i a0 a1 => by have := (((show MeetsP p u len pt cnt by first | assumption | exact Classical.not_not.1 ‹_›)).s.all i a0 a1).2; omega) hu (Int.le_refl _)
   have r0 := mul_abs (a := sumTo cnt u.toNat) (b := denbd1) (A := 1000000) (B := 2100000) (by omega) (by omega)
   refine ⟨⟨fun _ => hS, hS⟩, ?_⟩
   refine zdv 18 (fun _ => (xmul (r := ((sumTo cnt u.toNat) * denbd1)) (e := rfl))) ?_
   refine zdv 19 (fun _ => xgtr) ?_
   refine zdv 20 (fun _ => xpt) ?_
   refine zdv 21 (fun _ => xpf) ?_
   refine zdd <| ztn ?_
   refine zcif ?_ ?_ <;> intro hc
   ·
    refine zsr ?_
    refine zlv xas ?_
    refine zlt <| zrt <| ztr <| zf1 ⟨_, rfl, ?_⟩
    exfalso
    first | omega | (have := b7 hU.row.slh.n0 (by assumption); omega)
   refine zsk <| ztn <| zsr ?_
   refine zlv (xls 0 st_24 hS) ?_
   refine zlc (xc0 cl_12) (c_csolve (p := p) w (h.below hS.below)) ?_; rintro _ w ⟨vPcs1, vvcs1, vXcs1, vYcs1, ucs1, mlcs1, mfcs1, scs1, ecs1, rfl, hcocs1, hvPcs1, hvXcs1, hvYcs1, hS'⟩
   replace hS : Sat w0 w [.blk g1 [vL, vD, .int .i64 p.stock, .int .i64 p.kerf], .own v1 1 3 p.m (ints fO), .blk g2 [.int .i64 numbd1, .int .i64 denbd1], .own vPcs1 1 22 ucs1 vvcs1, .sem (Frame.rows 3 ucs1 vvcs1 mlcs1 mfcs1), .own vXcs1 1 3 scs1.n (ints scs1.X), .own vYcs1 1 3 scs1.m (ints scs1.Y)] := hS.comp hS'; clear hS'
   have hrwcs1 := fun k (k0 : 0 ≤ k) (k1 : k < ucs1) => hS.slhIn 4 rfl k0 k1
   refine zs3 ?_
   refine zla (xal (cs := [_, _, _, _, _]) el_32 hS) ?_; rintro _ w ⟨g3, rfl, hS⟩
   replace hS := hS.n8
   refine zle (xsw 7 st_32 hS (hd := (ones_cons hvPcs1.one (ones_cons hvXcs1.one (ones_cons hvYcs1.one (ones_cons rfl (ones_cons rfl ones_nil))))))) ?_; clear hS; rintro w hS
   replace hS := hS.n8
   refine zlv xas ?_
   refine zlt <| zsq <| zsr ?_
   refine zs2 ?_
   refine zlt ?_
   refine zcif ?_ ?_ <;> intro hc
   ·
    refine zsr ?_
    refine zlv xas ?_
    refine zlt <| zrt <| ztr <| zf1 ⟨_, rfl, ?_⟩
    exact ⟨rfl, hS.nl⟩
   refine zsk <| ztn <| zsr ?_
   refine zlv (xls 0 st_24 hS) ?_
   obtain ⟨hmk, hwc⟩ := hcocs1.okS hvPcs1.n0 (by omega)
   have hd1 := hmk.d1; have hd2 := hmk.d2; have hv := hmk.v
   have hle := b8 hmk
   refine zlv (xfb 1 fd_32_1) ?_
   refine zlv (xfb 2 fd_30_1) ?_
   refine zlv (xlb 7 pl_22 hS) ?_
   refine zlc (xc0 cl_17) (c_cbound (p := p) (n := scs1.m) (y := scs1.Y) w (h.below hS.below) (hS.rowN 6 rfl)) ?_; rintro _ w ⟨numbd2, denbd2, ebbd2, rfl, hbdbd2, hS'⟩
   replace hS := hS.cmp hS'; clear hS'
   refine zs2 ?_
   obtain ⟨c1, c2, c3, c4, c5, c6⟩ := bound_own hmk hwc hbdbd2
   have r1 := mul_abs (a := numbd1) (b := scs1.den) (A := 750000) (B := 1073741824) (by omega) (by omega)
   have r2 := mul_abs (a := scs1.val) (b := denbd1) (A := 1073741824) (B := 2100000) (by omega) (by omega)
   have r3 := mul_abs (a := numbd2) (b := scs1.den) (A := 1073741824) (B := 1073741824) (by omega) (by omega)
   have r4 := mul_abs (a := scs1.val) (b := denbd2) (A := 1073741824) (B := 1073741824) (by omega) (by omega)
   refine zlv xex ?_
   refine zla (xal (cs := [_, _]) el_45 hS) ?_; rintro _ w ⟨g4, rfl, hS⟩
   replace hS := hS.n9
   refine zle (xsw 8 st_45 hS) ?_; clear hS; rintro w hS
   replace hS := hS.n9
   refine zlv xas ?_
   refine zlz ?_
   refine zs3 ?_
   refine zlb 101 ?_ ?_ <;> intro hc
   ·
    refine zlv (xfb 0 fd_45_0) ?_
    refine zlv (xlb 2 pl_3 hS) ?_
    refine zlv (xfb 1 fd_32_1) ?_
    refine zlv (xfb 4 fd_30_3) ?_
    refine zlv (xlb 7 pl_3 hS) ?_
    refine zlv (xmul (r := (numbd1 * scs1.den)) (e := rfl)) ?_
    refine zlv (xfb 1 fd_32_1) ?_
    refine zlv (xfb 3 fd_30_2) ?_
    refine zlv (xlb 7 pl_3 hS) ?_
    refine zlv (xfb 1 fd_45_1) ?_
    refine zlv (xlb 2 pl_3 hS) ?_
    refine zlv (xmul (r := (scs1.val * denbd1)) (e := rfl)) ?_
    refine zs3 ?_
    refine zlb 116 ?_ ?_ <;> intro hc
    ·
     refine zlv (xfb 0 fd_45_0) ?_
     refine zlv (xlb 8 pl_3 hS) ?_
     refine zlv (xfb 1 fd_32_1) ?_
     refine zlv (xfb 4 fd_30_3) ?_
     refine zlv (xlb 7 pl_3 hS) ?_
     refine zlv (xmul (r := (numbd2 * scs1.den)) (e := rfl)) ?_
     refine zlv (xfb 1 fd_32_1) ?_
     refine zlv (xfb 3 fd_30_2) ?_
     refine zlv (xlb 7 pl_3 hS) ?_
     refine zlv (xfb 1 fd_45_1) ?_
     refine zlv (xlb 8 pl_3 hS) ?_
     refine zlv (xmul (r := (scs1.val * denbd2)) (e := rfl)) ?_
     refine zs3 ?_
     refine zlt <| zrt <| zf1 ⟨_, rfl, ?_⟩
     exact ⟨(true_B (by omega)).symm, hS.nl⟩
    iterate 13 refine zlo ?_
    refine zs2 ?_
    refine zlt <| zrt <| zf1 ⟨_, rfl, ?_⟩
    exfalso
    first | omega | (have := b7 hU.row.slh.n0 (by assumption); omega)
   iterate 13 refine zlo ?_
   refine zs2 ?_
   iterate 13 refine zlo ?_
   refine zs2 ?_
   refine zlt <| zrt <| zf1 ⟨_, rfl, ?_⟩
   exfalso
   first | omega | (have := b7 hU.row.slh.n0 (by assumption); omega)
  refine zdof 12 ?_
  refine zdof 13 ?_
  refine zdof 14 ?_
  refine zdof 16 ?_
  refine zdof 17 ?_
  refine zdof 15 ?_
  refine zdof 18 ?_
  refine zdof 19 ?_
  refine zdv 20 (fun _ => xpf) ?_
  refine zdv 21 (fun _ => xpf) ?_
  refine zdd <| ztn <| zcf <| zsk <| ztn <| zsr ?_
  refine zlv (xls 0 st_24 hS) ?_
  refine zlc (xc0 cl_12) (c_csolve (p := p) w (h.below hS.below)) ?_; rintro _ w ⟨vPcs1, vvcs1, vXcs1, vYcs1, ucs1, mlcs1, mfcs1, scs1, ecs1, rfl, hcocs1, hvPcs1, hvXcs1, hvYcs1, hS'⟩
  replace hS : Sat w0 w [.blk g1 [vL, vD, .int .i64 p.stock, .int .i64 p.kerf], .own v1 1 3 p.m (ints fO), .blk g2 [.int .i64 numbd1, .int .i64 denbd1], .own vPcs1 1 22 ucs1 vvcs1, .sem (Frame.rows 3 ucs1 vvcs1 mlcs1 mfcs1), .own vXcs1 1 3 scs1.n (ints scs1.X), .own vYcs1 1 3 scs1.m (ints scs1.Y)] := hS.comp hS'; clear hS'
  have hrwcs1 := fun k (k0 : 0 ≤ k) (k1 : k < ucs1) => hS.slhIn 4 rfl k0 k1
  refine zs3 ?_
  refine zla (xal (cs := [_, _, _, _, _]) el_32 hS) ?_; rintro _ w ⟨g3, rfl, hS⟩
  replace hS := hS.n8
  refine zle (xsw 7 st_32 hS (hd := (ones_cons hvPcs1.one (ones_cons hvXcs1.one (ones_cons hvYcs1.one (ones_cons rfl (ones_cons rfl ones_nil))))))) ?_; clear hS; rintro w hS
  replace hS := hS.n8
  refine zlv xas ?_
  refine zlt <| zsq <| zsr ?_
  refine zs2 ?_
  refine zlt ?_
  refine zcif ?_ ?_ <;> intro hc
  ·
   refine zsr ?_
   refine zlv xas ?_
   refine zlt <| zrt <| ztr <| zf1 ⟨_, rfl, ?_⟩
   exact ⟨rfl, hS.nl⟩
  refine zsk <| ztn <| zsr ?_
  refine zlv (xls 0 st_24 hS) ?_
  obtain ⟨hmk, hwc⟩ := hcocs1.okS hvPcs1.n0 (by omega)
  have hd1 := hmk.d1; have hd2 := hmk.d2; have hv := hmk.v
  have hle := b8 hmk
  refine zlv (xfb 1 fd_32_1) ?_
  refine zlv (xfb 2 fd_30_1) ?_
  refine zlv (xlb 7 pl_22 hS) ?_
  refine zlc (xc0 cl_17) (c_cbound (p := p) (n := scs1.m) (y := scs1.Y) w (h.below hS.below) (hS.rowN 6 rfl)) ?_; rintro _ w ⟨numbd2, denbd2, ebbd2, rfl, hbdbd2, hS'⟩
  replace hS := hS.cmp hS'; clear hS'
  refine zs2 ?_
  obtain ⟨c1, c2, c3, c4, c5, c6⟩ := bound_own hmk hwc hbdbd2
  have r1 := mul_abs (a := numbd1) (b := scs1.den) (A := 750000) (B := 1073741824) (by omega) (by omega)
  have r2 := mul_abs (a := scs1.val) (b := denbd1) (A := 1073741824) (B := 2100000) (by omega) (by omega)
  have r3 := mul_abs (a := numbd2) (b := scs1.den) (A := 1073741824) (B := 1073741824) (by omega) (by omega)
  have r4 := mul_abs (a := scs1.val) (b := denbd2) (A := 1073741824) (B := 1073741824) (by omega) (by omega)
  refine zlv xex ?_
  refine zla (xal (cs := [_, _]) el_45 hS) ?_; rintro _ w ⟨g4, rfl, hS⟩
  replace hS := hS.n9
  refine zle (xsw 8 st_45 hS) ?_; clear hS; rintro w hS
  replace hS := hS.n9
  refine zlv xas ?_
  refine zlz ?_
  refine zs3 ?_
  refine zlb 101 ?_ ?_ <;> intro hc
  ·
   refine zlv (xfb 0 fd_45_0) ?_
   refine zlv (xlb 2 pl_3 hS) ?_
   refine zlv (xfb 1 fd_32_1) ?_
   refine zlv (xfb 4 fd_30_3) ?_
   refine zlv (xlb 7 pl_3 hS) ?_
   refine zlv (xmul (r := (numbd1 * scs1.den)) (e := rfl)) ?_
   refine zlv (xfb 1 fd_32_1) ?_
   refine zlv (xfb 3 fd_30_2) ?_
   refine zlv (xlb 7 pl_3 hS) ?_
   refine zlv (xfb 1 fd_45_1) ?_
   refine zlv (xlb 2 pl_3 hS) ?_
   refine zlv (xmul (r := (scs1.val * denbd1)) (e := rfl)) ?_
   refine zs3 ?_
   refine zlb 116 ?_ ?_ <;> intro hc
   ·
    refine zlv (xfb 0 fd_45_0) ?_
    refine zlv (xlb 8 pl_3 hS) ?_
    refine zlv (xfb 1 fd_32_1) ?_
    refine zlv (xfb 4 fd_30_3) ?_
    refine zlv (xlb 7 pl_3 hS) ?_
    refine zlv (xmul (r := (numbd2 * scs1.den)) (e := rfl)) ?_
    refine zlv (xfb 1 fd_32_1) ?_
    refine zlv (xfb 3 fd_30_2) ?_
    refine zlv (xlb 7 pl_3 hS) ?_
    refine zlv (xfb 1 fd_45_1) ?_
    refine zlv (xlb 8 pl_3 hS) ?_
    refine zlv (xmul (r := (scs1.val * denbd2)) (e := rfl)) ?_
    refine zs3 ?_
    refine zlt <| zrt <| zf1 ⟨_, rfl, ?_⟩
    exact ⟨(true_B (by omega)).symm, hS.nl⟩
   iterate 13 refine zlo ?_
   refine zs2 ?_
   refine zlt <| zrt <| zf1 ⟨_, rfl, ?_⟩
   exfalso
   first | omega | (have := b7 hU.row.slh.n0 (by assumption); omega)
  iterate 13 refine zlo ?_
  refine zs2 ?_
  iterate 13 refine zlo ?_
  refine zs2 ?_
  refine zlt <| zrt <| zf1 ⟨_, rfl, ?_⟩
  exfalso
  first | omega | (have := b7 hU.row.slh.n0 (by assumption); omega)

set_option maxRecDepth 20000 in
theorem c_grows {vX vY : Value} {s : So} {xX xY : Value} {u : So} (w0 : World) (hX : Row w0 vX 1 s.n (ints s.X)) (hY : Row w0 vY 1 s.m (ints s.Y)) (hX2 : Row w0 xX 1 u.n (ints u.X)) (hY2 : Row w0 xY 1 u.m (ints u.Y)) (hsv : 0 ≤ s.val ∧ s.val ≤ 1073741824) (hsd : 0 ≤ s.den ∧ s.den ≤ 1073741824) (huv : 0 ≤ u.val ∧ u.val ≤ 1073741824) (hud : 0 ≤ u.den ∧ u.den ≤ 1073741824) :
    Calls Try.prog 14 [.agg #[vX, vY, .int .i64 s.val, .int .i64 s.den], .agg #[xX, xY, .int .i64 u.val, .int .i64 u.den]].toArray w0 fun e w => ∃ v, e = .returned v ∧ v = B ((u.val * s.den ≤ (s.val + s.den) * u.den ∧ s.val * u.den ≤ u.val * s.den)) ∧ Sat w0 w [] := by
  have g1 := mul_abs (a := u.val) (b := s.den) (A := 1073741824) (B := 1073741824) (by omega) (by omega)
  have g2 := mul_abs (a := s.val + s.den) (b := u.den) (A := 2147483648) (B := 1073741824) (by omega) (by omega)
  have g3 := mul_abs (a := s.val) (b := u.den) (A := 1073741824) (B := 1073741824) (by omega) (by omega)
  refine zenG Try.func14 Try.ntmps14 fun w hS => ?_
  refine zsr ?_
  refine zla (xbx (cs := [_, _, _, _]) hS) ?_; rintro _ w ⟨g1, rfl, hS⟩
  replace hS := hS.n1
  refine zla (xbx (cs := [_, _, _, _]) hS) ?_; rintro _ w ⟨g2, rfl, hS⟩
  replace hS := hS.n2
  refine zlv xas ?_
  refine zlz ?_
  refine zlv (xfb 2 fd_30_2) ?_
  refine zlv (xlb 1 pl_3 hS) ?_
  refine zlv (xfb 3 fd_30_3) ?_
  refine zlv (xlb 0 pl_3 hS) ?_
  refine zlv (xmul (r := (u.val * s.den)) (e := rfl)) ?_
  refine zlv (xfb 2 fd_30_2) ?_
  refine zlv (xlb 0 pl_3 hS) ?_
  refine zlv (xfb 3 fd_30_3) ?_
  refine zlv (xlb 0 pl_3 hS) ?_
  refine zlv (xadd (r := s.val + s.den)) ?_
  refine zlv (xfb 3 fd_30_3) ?_
  refine zlv (xlb 1 pl_3 hS) ?_
  refine zlv (xmul (r := ((s.val + s.den) * u.den)) (e := rfl)) ?_
  refine zs2 ?_
  refine zlb 19 ?_ ?_ <;> intro hc
  ·
   refine zlv (xfb 2 fd_30_2) ?_
   refine zlv (xlb 1 pl_3 hS) ?_
   refine zlv (xfb 3 fd_30_3) ?_
   refine zlv (xlb 0 pl_3 hS) ?_
   refine zlv (xmul (r := (u.val * s.den)) (e := rfl)) ?_
   refine zlv (xfb 2 fd_30_2) ?_
   refine zlv (xlb 0 pl_3 hS) ?_
   refine zlv (xfb 3 fd_30_3) ?_
   refine zlv (xlb 1 pl_3 hS) ?_
   refine zlv (xmul (r := (s.val * u.den)) (e := rfl)) ?_
   refine zs3 ?_
   refine zlt <| zrt <| zf1 ⟨_, rfl, ?_⟩
   exact ⟨B_congr (by omega), hS.nl⟩
  iterate 11 refine zlo ?_
  refine zs2 ?_
  refine zlt <| zrt <| zf1 ⟨_, rfl, ?_⟩
  exact ⟨false_B (by omega), hS.nl⟩

theorem moreP_bd {p : Prob} {k : Int} (h : ∀ k, -9223372036854775808 ≤ p.D k ∧ p.D k ≤ 9223372036854775807) (hk : p.D k ≤ 1000) : ∀ j, -9223372036854775808 ≤ (moreP p k).D j ∧ (moreP p k).D j ≤ 9223372036854775807 := fun j => by
  rw [more_D]; have := h j; have := h k; split <;> omega

set_option maxHeartbeats 4000000 in
set_option maxRecDepth 20000 in
theorem law_cgrows {vL vD : Value} {p : Prob} {at_ : Int} (w0 : World) (h : PAt w0 vL vD p) (hat : 0 ≤ at_ ∧ at_ ≤ 255) :
    Calls Try.prog 4 [.agg #[vL, vD, .int .i64 p.stock, .int .i64 p.kerf], .int .u8 at_].toArray w0 fun e w => ∃ v, e = .returned v ∧ v = .bool true ∧ Sat w0 w [] := by
  have hm := h.L.slh.n0; have hm1 := h.L.slh.n1; have hd := h.D.slh.n0; have hd1 := h.D.slh.n1; have hs := h.is; have hk := h.ik
  refine zenG Try.func4 Try.ntmps4 fun w hS => ?_
  refine zsr ?_
  refine zla (xbx (cs := [_, _, _, _]) hS) ?_; rintro _ w ⟨g1, rfl, hS⟩
  replace hS := hS.n1
  refine zlv xas ?_
  refine zlt <| zsq <| zsr ?_
  refine zlc (xc0 cl_9) (c_awake31 w) ?_; rintro _ w ⟨rfl, hS'⟩
  replace hS := hS.cmp hS'; clear hS'
  refine zs2 ?_
  refine zlv (xls 0 st_24 hS) ?_
  refine zlc (xc0 cl_10) (c_few28 (p := p) w (h.below hS.below)) ?_; rintro _ w ⟨rfl, hS'⟩
  replace hS := hS.cmp hS'; clear hS'
  refine zs3 ?_
  refine zlb 18 ?_ ?_ <;> intro hc
  ·
   iterate 3 refine zlo ?_
   refine zlv xpt ?_
   refine zlt <| zct <| zsr ?_
   refine zlc (xc0 cl_9) (c_awake31 w) ?_; rintro _ w ⟨rfl, hS'⟩
   replace hS := hS.cmp hS'; clear hS'
   refine zlv xas ?_
   refine zlt <| zrt <| ztr <| zf1 ⟨_, rfl, ?_⟩
   exact ⟨rfl, hS.nl⟩
  refine zlv (xls 0 st_24 hS) ?_
  refine zlc (xc0 cl_11) (c_rvalid28 (p := p) w (h.below hS.below)) ?_; rintro _ w ⟨rfl, hS'⟩
  replace hS := hS.cmp hS'; clear hS'
  refine zs2 ?_
  refine zlt ?_
  refine zcif ?_ ?_ <;> intro hc
  ·
   refine zsr ?_
   refine zlc (xc0 cl_9) (c_awake31 w) ?_; rintro _ w ⟨rfl, hS'⟩
   replace hS := hS.cmp hS'; clear hS'
   refine zlv xas ?_
   refine zlt <| zrt <| ztr <| zf1 ⟨_, rfl, ?_⟩
   exact ⟨rfl, hS.nl⟩
  refine zsk <| ztn <| zsr ?_
  refine zlv xmv ?_
  refine zlv (xcv so_5 it_3) ?_
  have hok : p.Ok := by first | assumption | exact Classical.not_not.1 ‹¬ ¬ p.Ok›
  have hfew : Few28 p := by first | assumption | exact Classical.not_not.1 ‹¬ ¬ Few28 p›
  have hm1 := hok.m1; have hm2 := hok.m2; have hmd := hok.d
  have htr := Int.tmod_nonneg p.m hat.1; have htl := Int.tmod_lt_of_pos at_ (show 0 < p.m by omega)
  refine zlv (xfb 0 fd_24_0) ?_
  refine zlv (xlb 0 pl_22 hS) ?_
  refine zlv (xln sl_22 h.L.slh) ?_
  refine zlv (xrem (r := (Int.tmod at_ p.m))) ?_
  obtain ⟨k, hk⟩ : ∃ k, k = at_.tmod p.m := ⟨_, rfl⟩
  have k0 : 0 ≤ k := by omega
  have k1 : k < p.m := by omega
  refine zlas 29 (u := .int .i64 k) (by rw [hk]) ?_
  have hDk := dem_nn hok k0 k1
  refine zlv xas ?_
  refine zlz ?_
  refine zlv (xls 0 st_24 hS) ?_
  refine zla (xal (cs := [_, _, _, _]) el_24 hS) ?_; rintro _ w ⟨g2, rfl, hS⟩
  replace hS := hS.n2
  refine zle (xsw 1 st_24 hS (hd := (ones_cons h.L.slh.one (ones_cons h.D.slh.one (ones_cons rfl (ones_cons rfl ones_nil)))))) ?_; clear hS; rintro w hS
  replace hS := hS.n2
  refine zlz ?_
  refine zla (xl0 (c := ints p.D) sl_22 hS) ?_; rintro v1 w ⟨hS, hv1⟩
  replace hS := hS.n3
  refine zlv (xfb 1 fd_24_1) ?_
  refine zlv (xlb 0 pl_22 hS) ?_
  refine zla (xap 2 (r := p.d) (f := ints p.D) sl_22 el_3 hS (h.D.below hS.below) (by exact cat_self _ _)) ?_; rintro v2 w ⟨hS, hv2⟩
  replace hS := hS.n3
  refine zlv (xfb 1 fd_24_1) ?_
  refine zle (xsb 1 pl_22 hS (hv := hv2.one)) ?_; clear hS; rintro w hS
  replace hS := hS.n3
  refine zlz ?_
  refine zlv (xfb 1 fd_24_1) ?_
  refine zlv (xlb 1 pl_22 hS) ?_
  refine zlv xmv ?_
  refine zlv (xix (kk := k) sl_22 hv2) ?_
  refine zlv (xlr (u := .int .i64 (p.D k)) pl_3 (hS.rowN 2 rfl)) ?_
  refine zlv (xadd (r := p.D k + 1)) ?_
  refine zlv (xix (kk := k) sl_22 hv2) ?_
  refine zle (xso 2 pl_3 hS (upd_ints _ _ _)) ?_; clear hS; rintro w hS
  replace hS := hS.n3
  refine zlz ?_
  refine zlv (xls 0 st_24 hS) ?_
  replace hS := hS.recont 2 rfl (d := ints (moreP p k).D) (fun j j0 j1 => by first | rfl | (unfold ints; congr 1))
  replace hS := hS.n3
  refine zlc (xc0 cl_12) (c_csolve (p := p) w (h.below hS.below)) ?_; rintro _ w ⟨vPcs1, vvcs1, vXcs1, vYcs1, ucs1, mlcs1, mfcs1, scs1, ecs1, rfl, hcocs1, hvPcs1, hvXcs1, hvYcs1, hS'⟩
  replace hS : Sat w0 w [.blk g1 [vL, vD, .int .i64 p.stock, .int .i64 p.kerf], .blk g2 [vL, v2, .int .i64 p.stock, .int .i64 p.kerf], .own v2 1 3 p.d (ints (moreP p k).D), .own vPcs1 1 22 ucs1 vvcs1, .sem (Frame.rows 3 ucs1 vvcs1 mlcs1 mfcs1), .own vXcs1 1 3 scs1.n (ints scs1.X), .own vYcs1 1 3 scs1.m (ints scs1.Y)] := hS.comp hS'; clear hS'
  have hrwcs1 := fun k (k0 : 0 ≤ k) (k1 : k < ucs1) => hS.slhIn 4 rfl k0 k1
  refine zs3 ?_
  refine zla (xal (cs := [_, _, _, _, _]) el_32 hS) ?_; rintro _ w ⟨g3, rfl, hS⟩
  replace hS := hS.n8
  refine zle (xsw 7 st_32 hS (hd := (ones_cons hvPcs1.one (ones_cons hvXcs1.one (ones_cons hvYcs1.one (ones_cons rfl (ones_cons rfl ones_nil))))))) ?_; clear hS; rintro w hS
  replace hS := hS.n8
  refine zlv xas ?_
  refine zlz ?_
  refine zlv (xls 1 st_24 hS) ?_
  refine zlc (xc0 cl_12) (c_csolve (p := moreP p k) w (⟨(h.L.below hS.below), (hS.rowN 2 rfl), h.iL, moreP_bd h.iD (by omega), h.is, h.ik⟩ : PAt _ _ _ (moreP p k))) ?_; rintro _ w ⟨vPcs2, vvcs2, vXcs2, vYcs2, ucs2, mlcs2, mfcs2, scs2, ecs2, rfl, hcocs2, hvPcs2, hvXcs2, hvYcs2, hS'⟩
  replace hS : Sat w0 w [.blk g1 [vL, vD, .int .i64 p.stock, .int .i64 p.kerf], .blk g2 [vL, v2, .int .i64 p.stock, .int .i64 p.kerf], .own v2 1 3 p.d (ints (moreP p k).D), .own vPcs1 1 22 ucs1 vvcs1, .sem (Frame.rows 3 ucs1 vvcs1 mlcs1 mfcs1), .own vXcs1 1 3 scs1.n (ints scs1.X), .own vYcs1 1 3 scs1.m (ints scs1.Y), .blk g3 [vPcs1, vXcs1, vYcs1, .int .i64 scs1.val, .int .i64 scs1.den], .own vPcs2 1 22 ucs2 vvcs2, .sem (Frame.rows 3 ucs2 vvcs2 mlcs2 mfcs2), .own vXcs2 1 3 scs2.n (ints scs2.X), .own vYcs2 1 3 scs2.m (ints scs2.Y)] := hS.comp hS'; clear hS'
  have hrwcs2 := fun k (k0 : 0 ≤ k) (k1 : k < ucs2) => hS.slhIn 9 rfl k0 k1
  refine zs3 ?_
  refine zla (xal (cs := [_, _, _, _, _]) el_32 hS) ?_; rintro _ w ⟨g4, rfl, hS⟩
  replace hS := hS.n13
  refine zle (xsw 12 st_32 hS (hd := (ones_cons hvPcs2.one (ones_cons hvXcs2.one (ones_cons hvYcs2.one (ones_cons rfl (ones_cons rfl ones_nil))))))) ?_; clear hS; rintro w hS
  replace hS := hS.n13
  refine zlv xas ?_
  refine zlt <| zsq <| zsr ?_
  refine zs3 ?_
  refine zlb 55 ?_ ?_ <;> intro hc
  ·
   iterate 2 refine zlo ?_
   refine zs2 ?_
   iterate 6 refine zlo ?_
   refine zlv xpt ?_
   refine zlt <| zct <| zsr ?_
   refine zlv xas ?_
   refine zlt <| zrt <| ztr <| zf1 ⟨_, rfl, ?_⟩
   exact ⟨rfl, hS.nl⟩
  refine zs4 ?_
  refine zlb 59 ?_ ?_ <;> intro hc
  ·
   iterate 6 refine zlo ?_
   refine zlv xpt ?_
   refine zlt <| zct <| zsr ?_
   refine zlv xas ?_
   refine zlt <| zrt <| ztr <| zf1 ⟨_, rfl, ?_⟩
   exact ⟨rfl, hS.nl⟩
  refine zlv (xfb 1 fd_24_1) ?_
  refine zlv (xlb 1 pl_22 hS) ?_
  refine zlv xmv ?_
  refine zlv (xix (kk := k) sl_22 hv2) ?_
  refine zlv (xlr (u := .int .i64 ((moreP p k).D k)) pl_3 (hS.rowN 2 rfl)) ?_
  refine zs2 ?_
  refine zlt ?_
  refine zcif ?_ ?_ <;> intro hc
  ·
   refine zsr ?_
   refine zlv xas ?_
   refine zlt <| zrt <| ztr <| zf1 ⟨_, rfl, ?_⟩
   exact ⟨rfl, hS.nl⟩
  refine zsk <| ztn <| zsr ?_
  refine zlv (xfb 1 fd_32_1) ?_
  refine zlv (xfb 4 fd_30_3) ?_
  refine zlv (xlb 7 pl_3 hS) ?_
  obtain ⟨hmk, hwc⟩ := hcocs1.okS hvPcs1.n0 (by omega)
  obtain ⟨hmk2, hwc2⟩ := hcocs2.okS hvPcs2.n0 (by omega)
  have hd1 := hmk.d1; have hd2 := hmk.d2; have hv := hmk.v; have hd3 := hmk2.d1; have hd4 := hmk2.d2; have hv2 := hmk2.v
  have hlo := more_low k0 k1 hmk hwc hmk2; have hhi := more_high k0 k1 hmk hmk2 hwc2
  refine zs2 ?_
  refine zlb 71 ?_ ?_ <;> intro hc
  ·
   refine zlv (xfb 1 fd_32_1) ?_
   refine zlv (xfb 4 fd_30_3) ?_
   refine zlv (xlb 12 pl_3 hS) ?_
   refine zs3 ?_
   refine zlb 77 ?_ ?_ <;> intro hc
   ·
    refine zlv (xfb 1 fd_32_1) ?_
    refine zlv (xlp 7 (ds := [vXcs1, vYcs1, .int .i64 scs1.val, .int .i64 scs1.den]) st_30 hS) ?_
    refine zlv (xfb 1 fd_32_1) ?_
    refine zlv (xlp 12 (ds := [vXcs2, vYcs2, .int .i64 scs2.val, .int .i64 scs2.den]) st_30 hS) ?_
    refine zlc (xc0 cl_14) (c_grows (s := scs1) (u := scs2) w (hS.rowN 5 rfl) (hS.rowN 6 rfl) (hS.rowN 10 rfl) (hS.rowN 11 rfl) (by omega) (by omega) (by omega) (by omega)) ?_; rintro _ w ⟨rfl, hS'⟩
    replace hS := hS.cmp hS'; clear hS'
    refine zs2 ?_
    refine zlt <| zrt <| zf1 ⟨_, rfl, ?_⟩
    exact ⟨(true_B ⟨hhi, hlo⟩).symm, hS.nl⟩
   iterate 5 refine zlo ?_
   refine zs2 ?_
   refine zlt <| zrt <| zf1 ⟨_, rfl, ?_⟩
   exfalso
   omega
  iterate 4 refine zlo ?_
  refine zs2 ?_
  iterate 5 refine zlo ?_
  refine zs2 ?_
  refine zlt <| zrt <| zf1 ⟨_, rfl, ?_⟩
  exfalso
  omega

theorem one_sum {x : Int → Int} {n : Nat} {k : Int} (k0 : 0 ≤ k) (k1 : k < (n : Int)) (h : ∀ j, 0 ≤ j → j < (n : Int) → j ≠ k → x j = 0) : sumTo x n = x k := by
  rw [sumTo_split (s := k) k0 k1]
  have : sumTo (fun j => if j = k then 0 else x j) n = sumTo (fun _ => 0) n := sumTo_congr fun j j0 j1 => by
    by_cases e : j = k
    · rw [if_pos e]
    · rw [if_neg e, h j j0 j1 e]
  rw [this, sumTo_zero]; omega
/-- The pattern of one length is proper. -/
theorem one_prop {p : Prob} (hp : p.Ok) {i : Int} (i0 : 0 ≤ i) (i1 : i < p.m) : ProperP p p.m (oneP p i) ∧ (0 < p.D i → 1 ≤ oneP p i i) := by
  have hm := hp.m1; have hk := hp.k1; have hs := hp.s1
  have hd := dem_nn hp i0 i1
  have hq := quo_facts (a := p.stock + p.kerf) (b := p.L i + p.kerf) (by omega) (by omega)
  have h0 : 0 ≤ (p.stock + p.kerf).tdiv (p.L i + p.kerf) := Int.tdiv_nonneg (by omega) (by omega)
  have h1 : 1 ≤ (p.stock + p.kerf).tdiv (p.L i + p.kerf) := by
    rw [Int.tdiv_eq_ediv_of_nonneg (by omega)]
    exact (Int.le_ediv_iff_mul_le (by omega)).2 (by omega)
  have hv : oneP p i i = min (p.D i) ((p.stock + p.kerf).tdiv (p.L i + p.kerf)) := if_pos rfl
  have hz : ∀ j, j ≠ i → oneP p i j = 0 := fun j e => if_neg e
  refine ⟨⟨⟨hp, rfl, fun j j0 j1 => ?_, ?_⟩, fun j j0 j1 => ?_⟩, fun h => by rw [hv]; omega⟩
  · by_cases e : j = i
    · rw [e, hv]; omega
    · rw [hz j e]; omega
  · have e : Used p (oneP p i) p.m.toNat = oneP p i i * (p.L i + p.kerf) := one_sum (x := fun j => oneP p i j * (p.L j + p.kerf)) i0 (by omega) fun j _ _ e => by show oneP p i j * _ = 0; rw [hz j e, Int.zero_mul]
    rw [e, hv]
    have h2 := Int.mul_le_mul_of_nonneg_right (show min (p.D i) ((p.stock + p.kerf).tdiv (p.L i + p.kerf)) ≤ (p.stock + p.kerf).tdiv (p.L i + p.kerf) by omega) (show 0 ≤ p.L i + p.kerf by omega)
    have h3 : (p.stock + p.kerf).tdiv (p.L i + p.kerf) * (p.L i + p.kerf) ≤ p.stock + p.kerf := by
      rw [Int.tdiv_eq_ediv_of_nonneg (by omega)]
      exact Int.ediv_mul_le _ (by omega)
    omega
  · by_cases e : j = i
    · rw [e, hv]; omega
    · rw [hz j e]; exact (dem_nn hp j0 j1).1
theorem st_inv {p : Prob} (hp : p.Ok) : ∀ k : Nat, (k : Int) ≤ p.m → (∀ j, 0 ≤ j → j < stN p k → ProperP p (stL p k j) (stG p k j)) ∧ ∀ i, 0 ≤ i → i < (k : Int) → 0 < p.D i → ∃ j, 0 ≤ j ∧ j < stN p k ∧ 1 ≤ stG p k j i
  | 0, _ => ⟨fun j a b => by simp only [stN] at b; omega, fun i a b => by omega⟩
  | k + 1, hk => by
    obtain ⟨h1, h2⟩ := st_inv hp k (by omega)
    have hr := (stN_rng p k).1
    simp only [stN, stL, stG]
    by_cases e : 0 < p.D k
    · rw [if_pos e, if_pos e, if_pos e]
      obtain ⟨q1, q2⟩ := one_prop hp (i := (k : Int)) (by omega) (by omega)
      constructor
      · intro j j0 j1
        by_cases e2 : j < stN p k
        · rw [gsn_lt e2, gsn_lt e2]; exact h1 j j0 e2
        · rw [gsn_at e2, gsn_at e2]; exact q1
      · intro i i0 i1 hi
        by_cases e2 : i = k
        · subst e2
          refine ⟨stN p k, hr, by omega, ?_⟩
          rw [gsn_at (by omega)]; exact q2 e
        · obtain ⟨j, j0, j1, hj⟩ := h2 i i0 (by omega) hi
          refine ⟨j, j0, by omega, ?_⟩
          rw [gsn_lt j1]; exact hj
    · rw [if_neg e, if_neg e, if_neg e]
      refine ⟨h1, fun i i0 i1 hi => h2 i i0 ?_ hi⟩
      by_cases e2 : i = k
      · subst e2; omega
      · omega
/-- The dearest pattern is proper. -/
theorem price_prop {p : Prob} {n na worth e : Int} {y a : Int → Int} (h : PriceR p n y na a worth e) (he : e = 0) : ProperP p na a := by
  rcases h with ⟨_, _, _, h⟩ | ⟨⟨hp, hn, hy⟩, rfl, rfl, ⟨x, hx⟩, _, _⟩
  · omega
  · have hm := hp.m1; have hk := hp.k1; have hs := hp.s1
    have hq := aC_eq (by omega) hx
    have hu := (hx.worth (by omega) (by show 0 ≤ p.m; omega)).1
    have hb : ∀ i, 0 ≤ i → i < p.m → 0 ≤ aC p y i ∧ aC p y i ≤ p.D i := fun i i0 i1 => by
      have h1 := hx i i0 i1
      rw [← hq i i0 i1]; exact ⟨h1.1, h1.2.1⟩
    refine ⟨⟨hp, rfl, fun i i0 i1 => ?_, ?_⟩, fun i i0 i1 => (hb i i0 i1).2⟩
    · have := hb i i0 i1; have := dem_nn hp i0 i1; omega
    · refine Int.le_trans (Int.le_of_eq ?_) hu
      show sumTo (fun i => aC p y i * (p.L i + p.kerf)) p.m.toNat = sumTo (fun i => x i * (p.L i + p.kerf)) p.m.toNat
      exact sumTo_congr fun i i0 i1 => by rw [hq i i0 (by omega)]
theorem crn_inv {p : Prob} (hok : p.Ok) {u e : Int} {ml : Int → Int} {mf : Int → Int → Int} (h : CRn p u ml mf e) : e = 0 ∧ PropL p u ml mf ∧ 0 ≤ u ∧ ∀ i, 0 ≤ i → i < p.m → 0 < p.D i → ∃ j, 0 ≤ j ∧ j < u ∧ 1 ≤ mf j i := by
  have hm := hok.m1
  induction h with
  | start h =>
    rcases h with ⟨h, _⟩ | ⟨_, h1, h2, h3, h4⟩
    · exact absurd hok h
    · subst h1; subst h2; subst h3
      obtain ⟨q1, q2⟩ := st_inv hok p.m.toNat (by omega)
      exact ⟨h4, ⟨hok, q1⟩, (stN_rng p _).1, fun i i0 i1 => q2 i i0 (by omega)⟩
  | go h hs hp hn ih =>
    rename_i u1 na1 w1 f1 ml1 mf1 a1 s1
    obtain ⟨_, h2, h3, h4⟩ := ih
    have hpr := (hs.ok h3).prc
    have hf : f1 = 0 := by
      rcases hp with ⟨q, _⟩ | ⟨_, _, _, _, _, q⟩
      · exact absurd hpr q
      · exact q
    refine ⟨hf, ⟨hok, fun k k0 k1 => ?_⟩, by omega, fun i i0 i1 hi => ?_⟩
    · by_cases e : k < u1
      · rw [gsn_lt e, gsn_lt e]; exact h2.2 k k0 e
      · rw [gsn_at e, gsn_at e]; exact price_prop hp hf
    · obtain ⟨j, j0, j1, hj⟩ := h4 i i0 i1 hi
      exact ⟨j, j0, by omega, by rw [gsn_lt j1]; exact hj⟩
theorem lp_ok {p : Prob} {u : Int} {ml : Int → Int} {mf : Int → Int → Int} (h : PropL p u ml mf) (hu : 1 ≤ u) (hu2 : u ≤ 60) (hm : p.m ≤ 16) : LOk (lpOf p u mf) := by
  have hp := h.1
  refine ⟨hu, hu2, hm, hp.d, fun j _ _ => by show (0 : Int) ≤ 1 ∧ (1 : Int) ≤ 1000000; omega, fun i i0 i1 => ?_, fun i i0 i1 => ⟨rfl, fun j j0 j1 => ?_⟩⟩
  · have := dem_nn hp i0 i1
    show -1000000 ≤ p.D i ∧ p.D i ≤ 1000000; omega
  · have h1 := (prop_used (h.2 j j0 j1)).1 i i0 i1
    have := dem_nn hp i0 i1
    show -1000000 ≤ mf j i ∧ mf j i ≤ 1000000; omega
theorem ms_errs {p : Prob} {u e : Int} {ml : Int → Int} {mf : Int → Int → Int} {s : So} (hP : PropL p u ml mf) (hu : 0 ≤ u) (hc : ∀ i, 0 ≤ i → i < p.m → 0 < p.D i → ∃ j, 0 ≤ j ∧ j < u ∧ 1 ≤ mf j i) (h : MSolveR p u ml mf s e) : e = 0 ∨ e = 2 ∨ e = 9 := by
  have hp := hP.1
  have hm := hp.m1; have hd := hp.d
  rcases h with ⟨h, _⟩ | ⟨_, _, _, h⟩ | ⟨_, _, _, h1, ⟨k, k0, k1, hk⟩, _, _⟩ | ⟨_, _, _, _, _, _, h⟩ | ⟨_, h2, h3, h4, h5⟩
  · exact absurd hP h
  · omega
  · obtain ⟨j, j0, j1, _⟩ := hc k k0 (by omega) hk; omega
  · omega
  · rcases h5.errs (lp_ok hP h4 h3 h2) (by show 0 ≤ p.m; omega) with h | h | h | h
    · omega
    · omega
    · omega
    · exfalso
      obtain ⟨y, hy⟩ := h5.none (by show 0 ≤ p.m; omega) h
      have := ref_none hy (show 0 ≤ u by omega) (show 0 ≤ p.m by omega) (x := fun _ => 1000) (a := 1) (by omega) (fun j _ _ => by omega) fun i i0 i1 => by
        have hd := dem_nn hp i0 i1
        have hnn : ∀ j, 0 ≤ j → j < (u.toNat : Int) → 0 ≤ mf j i * 1000 := fun j j0 j1 => by
          have := ((prop_used (hP.2 j j0 (by omega))).1 i i0 i1).1; omega
        show p.D i * 1 ≤ sumTo (fun j => mf j i * 1000) u.toNat
        rcases Int.lt_or_le 0 (p.D i) with e | e
        · obtain ⟨j, j0, j1, hj⟩ := hc i i0 i1 e
          have := sumTo_one (f := fun j => mf j i * 1000) (n := u.toNat) j0 (by omega) hnn
          have h9 : mf j i * 1000 ≤ sumTo (fun j => mf j i * 1000) u.toNat := this
          omega
        · have := sumTo_nonneg hnn; omega
      omega
theorem ColR.errs {p : Prob} {u e : Int} {ml : Int → Int} {mf : Int → Int → Int} {s : So} (hok : p.Ok) (h : ColR p u ml mf s e) : (e ≠ 0 ∧ u = 0 ∧ (e = 9 ∨ e = 2)) ∨ e = 0 := by
  rcases h with ⟨h, _⟩ | ⟨_, he, hu, _, u1, ml1, mf1, e1, h1, h2⟩ | ⟨_, h, _⟩
  · exact absurd hok h
  · obtain ⟨q1, q2, q3, q4⟩ := crn_inv hok h1
    rcases h2 with ⟨h2, _⟩ | ⟨_, s1, h2⟩
    · exact absurd q1 h2
    · have := ms_errs q2 q3 q4 h2
      exact .inl ⟨he, hu, by omega⟩
  · exact .inr h
theorem ColR.few {p : Prob} {u e : Int} {ml : Int → Int} {mf : Int → Int → Int} {s : So} (h : ColR p u ml mf s e) (he : e = 0) : u ≤ 60 := by
  rcases h with ⟨_, _, _, h⟩ | ⟨_, h, _⟩ | ⟨_, _, _, h1, _⟩
  · omega
  · exact absurd he h
  · exact h1.few.2.1
theorem fit_rng {x c s : Int} (x0 : 0 ≤ x) (hx : x ≤ c.tdiv s) (c0 : 0 ≤ c) (hs : 1 ≤ s) : 0 ≤ x * s ∧ x * s ≤ c := by
  have hq := quo_facts (a := c) (b := s) c0 hs
  have h1 := Int.mul_nonneg x0 (show 0 ≤ s by omega)
  have h2 := Int.mul_le_mul_of_nonneg_right hx (show 0 ≤ s by omega)
  omega
theorem sum_snoc {x y : Int → Int} {i n : Int} (i0 : 0 ≤ i) : sumTo (fun k => snoc x i n k * y k) (i + 1).toNat = sumTo (fun k => x k * y k) i.toNat + n * y i := by
  rw [sumTo_next _ i0]
  have h : sumTo (fun k => snoc x i n k * y k) i.toNat = sumTo (fun k => x k * y k) i.toNat := sumTo_congr fun k k0 k1 => by rw [snoc_lt (by omega)]
  rw [h, snoc_at (by omega)]
theorem used_snoc {p : Prob} {x : Int → Int} {i n : Int} (i0 : 0 ≤ i) : Used p (snoc x i n) (i + 1).toNat = Used p x i.toNat + n * (p.L i + p.kerf) := sum_snoc i0

theorem xmin3 {P : Program} {L : List (Nat × Value)} {w : World} {o : Oper} {x y z : Operand} {k : IntKind} {m n i r : Int} {ts : Array TypeId} (ho : o.op = .call { callee := .builtin .min, args := #[x, y, z], argTypes := ts } := by exact rfl) (hx : evL L x = some (.int k m) := by exact rfl) (hy : evL L y = some (.int k n) := by exact rfl) (hz : evL L z = some (.int k i) := by exact rfl) (e : r = min (min m n) i := by exact rfl) : Runs P L w o (.value (.int k r)) w := fun ρ h => by
  subst e
  have h1 : (if n < m then n else m) = min m n := by rw [Int.min_def]; split <;> split <;> omega
  have h2 : (if i < min m n then i else min m n) = min (min m n) i := by rw [Int.min_def (min m n)]; split <;> split <;> omega
  have h3 : min (if n < m then n else m) i = min (min m n) i := by rw [h1]
  simp [execOp, ho, resolve, invoke, builtin, h _ _ hx, h _ _ hy, h _ _ hz, Builtin.min_, Builtin.min2, h1, h2]

set_option maxHeartbeats 4000000 in
set_option maxRecDepth 20000 in
theorem law_cfinal {vL vD : Value} {p : Prob} {vW : Value} {nw : Int} {fw : Int → Int} (w0 : World) (h : PAt w0 vL vD p) (hW : Row w0 vW 1 nw (fun k => .int .u8 (fw k))) (hwb : ∀ k, 0 ≤ fw k ∧ fw k ≤ 255) :
    Calls Try.prog 3 [.agg #[vL, vD, .int .i64 p.stock, .int .i64 p.kerf], vW].toArray w0 fun e w => ∃ v, e = .returned v ∧ v = .bool true ∧ Sat w0 w [] := by
  have hm := h.L.slh.n0; have hm1 := h.L.slh.n1; have hd := h.D.slh.n0; have hd1 := h.D.slh.n1; have hs := h.is; have hk := h.ik
  have hnw := hW.slh.n0
  refine zenG Try.func3 Try.ntmps3 fun w hS => ?_
  refine zsr ?_
  refine zla (xbx (cs := [_, _, _, _]) hS) ?_; rintro _ w ⟨g1, rfl, hS⟩
  replace hS := hS.n1
  refine zlv xas ?_
  refine zlt <| zsq <| zsr ?_
  refine zlc (xc0 cl_9) (c_awake31 w) ?_; rintro _ w ⟨rfl, hS'⟩
  replace hS := hS.cmp hS'; clear hS'
  refine zs2 ?_
  refine zlv (xls 0 st_24 hS) ?_
  refine zlc (xc0 cl_10) (c_few28 (p := p) w (h.below hS.below)) ?_; rintro _ w ⟨rfl, hS'⟩
  replace hS := hS.cmp hS'; clear hS'
  refine zs3 ?_
  refine zlb 27 ?_ ?_ <;> intro hc
  ·
   iterate 3 refine zlo ?_
   refine zlv xpt ?_
   refine zlt <| zct <| zsr ?_
   refine zlc (xc0 cl_9) (c_awake31 w) ?_; rintro _ w ⟨rfl, hS'⟩
   replace hS := hS.cmp hS'; clear hS'
   refine zlv xas ?_
   refine zlt <| zrt <| ztr <| zf1 ⟨_, rfl, ?_⟩
   exact ⟨rfl, hS.nl⟩
  refine zlv (xls 0 st_24 hS) ?_
  refine zlc (xc0 cl_11) (c_rvalid28 (p := p) w (h.below hS.below)) ?_; rintro _ w ⟨rfl, hS'⟩
  replace hS := hS.cmp hS'; clear hS'
  refine zs2 ?_
  refine zlt ?_
  refine zcif ?_ ?_ <;> intro hc
  ·
   refine zsr ?_
   refine zlc (xc0 cl_9) (c_awake31 w) ?_; rintro _ w ⟨rfl, hS'⟩
   replace hS := hS.cmp hS'; clear hS'
   refine zlv xas ?_
   refine zlt <| zrt <| ztr <| zf1 ⟨_, rfl, ?_⟩
   exact ⟨rfl, hS.nl⟩
  refine zsk <| ztn <| zsr ?_
  refine zlv (xls 0 st_24 hS) ?_
  have hok : p.Ok := by first | assumption | exact Classical.not_not.1 ‹¬ ¬ p.Ok›
  have hfew : Few28 p := by first | assumption | exact Classical.not_not.1 ‹¬ ¬ Few28 p›
  have hm1 := hok.m1; have hm2 := hok.m2; have hmd := hok.d
  refine zlc (xc0 cl_12) (c_csolve (p := p) w (h.below hS.below)) ?_; rintro _ w ⟨vPcs1, vvcs1, vXcs1, vYcs1, ucs1, mlcs1, mfcs1, scs1, ecs1, rfl, hcocs1, hvPcs1, hvXcs1, hvYcs1, hS'⟩
  replace hS : Sat w0 w [.blk g1 [vL, vD, .int .i64 p.stock, .int .i64 p.kerf], .own vPcs1 1 22 ucs1 vvcs1, .sem (Frame.rows 3 ucs1 vvcs1 mlcs1 mfcs1), .own vXcs1 1 3 scs1.n (ints scs1.X), .own vYcs1 1 3 scs1.m (ints scs1.Y)] := hS.comp hS'; clear hS'
  have hrwcs1 := fun k (k0 : 0 ≤ k) (k1 : k < ucs1) => hS.slhIn 2 rfl k0 k1
  refine zs3 ?_
  refine zla (xal (cs := [_, _, _, _, _]) el_32 hS) ?_; rintro _ w ⟨g2, rfl, hS⟩
  replace hS := hS.n6
  refine zle (xsw 5 st_32 hS (hd := (ones_cons hvPcs1.one (ones_cons hvXcs1.one (ones_cons hvYcs1.one (ones_cons rfl (ones_cons rfl ones_nil))))))) ?_; clear hS; rintro w hS
  replace hS := hS.n6
  refine zlv xas ?_
  refine zlt <| zsq <| zsr ?_
  refine zs2 ?_
  have herr := hcocs1.errs hok
  refine zlt ?_
  refine zcif ?_ ?_ <;> intro hc
  ·
   refine zsr ?_
   refine zlv (xfb 0 fd_32_0) ?_
   refine zlv (xlb 5 pl_28 hS) ?_
   refine zlv (xln sl_28 hvPcs1) ?_
   refine zs2 ?_
   refine zlb 44 ?_ ?_ <;> intro hc
   ·
    refine zs3 ?_
    refine zlb 47 ?_ ?_ <;> intro hc
    ·
     iterate 2 refine zlo ?_
     refine zs3 ?_
     refine zlt <| zrt <| ztr <| zf1 ⟨_, rfl, ?_⟩
     exact ⟨rfl, hS.nl⟩
    refine zs5 ?_
    refine zlt <| zrt <| ztr <| zf1 ⟨_, rfl, ?_⟩
    exact ⟨(true_B (by first | omega | exact ⟨⟨e8, e9⟩, e17⟩)).symm, hS.nl⟩
   iterate 6 refine zlo ?_
   refine zs2 ?_
   refine zlt <| zrt <| ztr <| zf1 ⟨_, rfl, ?_⟩
   exfalso
   first | omega | exact absurd (hmk.pats.2 i h0 (by omega)) ‹_›
  refine zsk <| ztn <| zsr ?_
  refine zlv (xfb 1 fd_32_1) ?_
  refine zlv (xlp 5 (ds := [vXcs1, vYcs1, .int .i64 scs1.val, .int .i64 scs1.den]) st_30 hS) ?_
  have hu0 := hvPcs1.n0
  obtain ⟨hmk, hwc⟩ := hcocs1.okS hvPcs1.n0 (by omega)
  have hd1 := hmk.d1; have hd2 := hmk.d2; have hv := hmk.v; have hsn := hmk.n; have hsm := hmk.m; have hu60 := hcocs1.few (by omega)
  have hs1 := hok.s1; have hs2 := hok.s2; have hk1 := hok.k1; have hk2 := hok.k2
  refine zla (xal (cs := [_, _, _, _]) el_30 hS) ?_; rintro _ w ⟨g3, rfl, hS⟩
  replace hS := hS.n7
  refine zle (xsw 6 st_30 hS (hd := (ones_cons hvXcs1.one (ones_cons hvYcs1.one (ones_cons rfl (ones_cons rfl ones_nil)))))) ?_; clear hS; rintro w hS
  replace hS := hS.n7
  refine zlt <| zsq <| zsr ?_
  refine zlv (xfb 3 fd_30_3) ?_
  refine zlv (xlb 6 pl_3 hS) ?_
  refine zs2 ?_
  refine zlb 57 ?_ ?_ <;> intro hc
  ·
   iterate 7 refine zlo ?_
   refine zs2 ?_
   iterate 7 refine zlo ?_
   refine zlv xpt ?_
   refine zlt <| zct <| zsr ?_
   refine zlv xas ?_
   refine zlt <| zrt <| ztr <| zf1 ⟨_, rfl, ?_⟩
   exfalso
   first | omega | exact absurd (hmk.pats.2 i h0 (by omega)) ‹_›
  refine zlv (xfb 0 fd_30_0) ?_
  refine zlv (xlb 6 pl_22 hS) ?_
  refine zlv (xln sl_22 hvXcs1) ?_
  refine zlv (xfb 0 fd_32_0) ?_
  refine zlv (xlb 5 pl_28 hS) ?_
  refine zlv (xln sl_28 hvPcs1) ?_
  refine zs3 ?_
  refine zlb 66 ?_ ?_ <;> intro hc
  ·
   iterate 7 refine zlo ?_
   refine zlv xpt ?_
   refine zlt <| zct <| zsr ?_
   refine zlv xas ?_
   refine zlt <| zrt <| ztr <| zf1 ⟨_, rfl, ?_⟩
   exfalso
   first | omega | exact absurd (hmk.pats.2 i h0 (by omega)) ‹_›
  refine zlv (xfb 1 fd_30_1) ?_
  refine zlv (xlb 6 pl_22 hS) ?_
  refine zlv (xln sl_22 hvYcs1) ?_
  refine zlv (xfb 0 fd_24_0) ?_
  refine zlv (xlb 0 pl_22 hS) ?_
  refine zlv (xln sl_22 h.L.slh) ?_
  refine zs2 ?_
  refine zlt ?_
  refine zcif ?_ ?_ <;> intro hc
  ·
   refine zsr ?_
   refine zlv xas ?_
   refine zlt <| zrt <| ztr <| zf1 ⟨_, rfl, ?_⟩
   exfalso
   first | omega | exact absurd (hmk.pats.2 i h0 (by omega)) ‹_›
  refine zsk <| ztn <| zsr ?_
  refine zs2 ?_
  refine zlt <| zsq <| zsr ?_
  refine zlv (xfb 0 fd_32_0) ?_
  refine zlv (xlb 5 pl_28 hS) ?_
  refine zlv (xln sl_28 hvPcs1) ?_
  refine zlv xmv ?_
  refine zlt <| zbk <| zlp (fun mm M w => ∃ (n8 : Int) (i : Int), mm = ((ucs1 - i).toNat) ∧ (0 ≤ i) ∧ (i ≤ ucs1) ∧ (n8 = sumTo scs1.X i.toNat) ∧ (0 ≤ n8 ∧ n8 ≤ 1073741824 * i) ∧ M = [(1, vW), (2, .pointer (some ⟨g1, 0, none⟩)), (5, .pointer (some ⟨g2, 0, none⟩)), (7, .pointer (some ⟨g3, 0, none⟩)), (8, .int .i64 n8), (9, .int .i64 0), (76, vPcs1), (77, .int .i64 ucs1), (78, .int .i64 i)] ∧ Sat w0 w [.blk g1 [vL, vD, .int .i64 p.stock, .int .i64 p.kerf], .own vPcs1 1 22 ucs1 vvcs1, .sem (Frame.rows 3 ucs1 vvcs1 mlcs1 mfcs1), .own vXcs1 1 3 scs1.n (ints scs1.X), .own vYcs1 1 3 scs1.m (ints scs1.Y), .blk g2 [vPcs1, vXcs1, vYcs1, .int .i64 scs1.val, .int .i64 scs1.den], .blk g3 [vXcs1, vYcs1, .int .i64 scs1.val, .int .i64 scs1.den]]) ⟨0, 0, rfl, (by omega), (by omega), ?_, (by omega), rfl, hS⟩ ?_
  ·
   rfl
  clear hS w
  rintro mm M w ⟨n8, i, rfl, h0, h1, hn8, hb8, rfl, hS⟩
  refine zsr ?_
  refine zlv xlss ?_
  refine zlt <| zsq ?_
  refine zcif ?_ ?_ <;> intro hc
  ·
   refine zsk <| ztn <| zsq <| zbk <| zsr ?_
   refine zlv xmv ?_
   refine zlv (xix (kk := i) sl_28 hvPcs1) ?_
   refine zlv (xlr (u := (vvcs1 i)) pl_22 (hS.rowN 1 rfl)) ?_
   refine zs2 ?_
   refine zlt <| zsq <| zsr ?_
   refine zlv (xfb 0 fd_30_0) ?_
   have hxi := hmk.X i h0 (by omega)
   refine zlv (xlb 6 pl_22 hS) ?_
   refine zlv xmv ?_
   refine zlv (xix (kk := i) sl_22 hvXcs1) ?_
   refine zlv (xlr (u := .int .i64 (scs1.X i)) pl_3 (hS.rowN 3 rfl)) ?_
   refine zs2 ?_
   refine zlb 89 ?_ ?_ <;> intro hc
   ·
    iterate 4 refine zlo ?_
    refine zlv xpt ?_
    refine zlt <| zct <| zsr ?_
    refine zlv xas ?_
    refine zlt <| zrt <| ztr <| zbr <| ztr <| ztr <| zbr <| ztr <| zf1 ⟨_, rfl, ?_⟩
    exfalso
    first | omega | exact absurd (hmk.pats.2 i h0 (by omega)) ‹_›
   refine zlv (xls 0 st_24 hS) ?_
   refine zlv xmv ?_
   refine zlc (xc0 cl_13) (c_rproper28 (p := p) w (h.below hS.below) (hS.rowIn (k := i) 2 rfl (by omega) (by omega))) ?_; rintro _ w ⟨rfl, hS'⟩
   replace hS := hS.cmp hS'; clear hS'
   refine zs2 ?_
   refine zlt ?_
   refine zcif ?_ ?_ <;> intro hc
   ·
    refine zsr ?_
    refine zlv xas ?_
    refine zlt <| zrt <| ztr <| zbr <| ztr <| ztr <| zbr <| ztr <| zf1 ⟨_, rfl, ?_⟩
    exfalso
    first | omega | exact absurd (hmk.pats.2 i h0 (by omega)) ‹_›
   refine zsk <| ztn <| zrg ?_
   refine zlv xmv ?_
   refine zlv (xfb 0 fd_30_0) ?_
   refine zlv (xlb 6 pl_22 hS) ?_
   refine zlv xmv ?_
   refine zlv (xix (kk := i) sl_22 hvXcs1) ?_
   refine zlv (xlr (u := .int .i64 (scs1.X i)) pl_3 (hS.rowN 3 rfl)) ?_
   refine zlv (xadd (r := n8 + (scs1.X i))) ?_
   refine zlv xas ?_
   refine zln <| zbn <| ztn <| zrg ?_
   refine zlv (xadd (r := i + 1)) ?_
   refine zlv xmv ?_
   refine zln <| zlq ⟨n8 + (scs1.X i), i + 1, rfl, (by omega), (by omega), ?_, (by omega), rfl, hS⟩
   ·
    rw [sumTo_next _ h0, hn8]
  refine zxt <| ztx <| ztx <| zbh <| ztn <| zsq <| zsr ?_
  refine zlv (xfb 0 fd_24_0) ?_
  have e8 : n8 = scs1.val := by rw [hn8, show i = ucs1 by omega]; exact hmk.cX
  refine zlv (xlb 0 pl_22 hS) ?_
  refine zlv (xln sl_22 h.L.slh) ?_
  refine zlv xmv ?_
  refine zlt <| zbk <| zlp (fun mm M w => ∃ (n9 : Int) (i2 : Int), mm = ((p.m - i2).toNat) ∧ (0 ≤ i2) ∧ (i2 ≤ p.m) ∧ (n9 = sumTo (fun k => p.D k * scs1.Y k) i2.toNat) ∧ (0 ≤ n9 ∧ n9 ≤ 1073741824000 * i2) ∧ M = [(1, vW), (2, .pointer (some ⟨g1, 0, none⟩)), (5, .pointer (some ⟨g2, 0, none⟩)), (7, .pointer (some ⟨g3, 0, none⟩)), (8, .int .i64 n8), (9, .int .i64 n9), (105, .int .i64 p.m), (106, .int .i64 i2)] ∧ Sat w0 w [.blk g1 [vL, vD, .int .i64 p.stock, .int .i64 p.kerf], .own vPcs1 1 22 ucs1 vvcs1, .sem (Frame.rows 3 ucs1 vvcs1 mlcs1 mfcs1), .own vXcs1 1 3 scs1.n (ints scs1.X), .own vYcs1 1 3 scs1.m (ints scs1.Y), .blk g2 [vPcs1, vXcs1, vYcs1, .int .i64 scs1.val, .int .i64 scs1.den], .blk g3 [vXcs1, vYcs1, .int .i64 scs1.val, .int .i64 scs1.den]]) ⟨0, 0, rfl, (by omega), (by omega), ?_, (by omega), rfl, hS⟩ ?_
  ·
   rfl
  clear hS w
  rintro mm M w ⟨n9, i2, rfl, hi0, hi1, hn9, hb9, rfl, hS⟩
  refine zsr ?_
  refine zlv xlss ?_
  refine zlt <| zsq ?_
  refine zcif ?_ ?_ <;> intro hc
  ·
   refine zsk <| ztn <| zsq <| zbk <| zsr ?_
   refine zs2 ?_
   refine zlz ?_
   refine zlv xas ?_
   refine zlt <| zsq <| zsr ?_
   refine zlv (xfb 0 fd_32_0) ?_
   refine zlv (xlb 5 pl_28 hS) ?_
   refine zlv (xln sl_28 hvPcs1) ?_
   refine zlv xmv ?_
   refine zlt <| zbk <| zlp (fun mm M w => ∃ (n13 : Int) (j : Int), mm = ((ucs1 - j).toNat) ∧ (0 ≤ j) ∧ (j ≤ ucs1) ∧ (n13 = sumTo (fun j => mfcs1 j i2 * scs1.X j) j.toNat) ∧ (0 ≤ n13 ∧ n13 ≤ 1073741824000 * j) ∧ M = [(1, vW), (2, .pointer (some ⟨g1, 0, none⟩)), (5, .pointer (some ⟨g2, 0, none⟩)), (7, .pointer (some ⟨g3, 0, none⟩)), (8, .int .i64 n8), (9, .int .i64 n9), (12, .int .i64 i2), (13, .int .i64 n13), (105, .int .i64 p.m), (106, .int .i64 i2), (110, vPcs1), (111, .int .i64 ucs1), (112, .int .i64 j)] ∧ Sat w0 w [.blk g1 [vL, vD, .int .i64 p.stock, .int .i64 p.kerf], .own vPcs1 1 22 ucs1 vvcs1, .sem (Frame.rows 3 ucs1 vvcs1 mlcs1 mfcs1), .own vXcs1 1 3 scs1.n (ints scs1.X), .own vYcs1 1 3 scs1.m (ints scs1.Y), .blk g2 [vPcs1, vXcs1, vYcs1, .int .i64 scs1.val, .int .i64 scs1.den], .blk g3 [vXcs1, vYcs1, .int .i64 scs1.val, .int .i64 scs1.den]]) ⟨0, 0, rfl, (by omega), (by omega), ?_, (by omega), rfl, hS⟩ ?_
   ·
    rfl
   clear hS w
   rintro mm M w ⟨n13, j, rfl, hj0, hj1, hn13, hb13, rfl, hS⟩
   refine zsr ?_
   refine zlv xlss ?_
   refine zlt <| zsq ?_
   refine zcif ?_ ?_ <;> intro hc
   ·
    refine zsk <| ztn <| zsq <| zbk <| zsr ?_
    refine zlv xmv ?_
    refine zlv (xix (kk := j) sl_28 hvPcs1) ?_
    refine zlv (xlr (u := (vvcs1 j)) pl_22 (hS.rowN 1 rfl)) ?_
    have hmq := (hmk.pats.2 j hj0 (by omega)).1.eq
    refine zs2 ?_
    refine zlt ?_
    refine zdst [0, 1, 2, 3, 4, 5, 6] [0, 1, 2, 3, 4, 5, 6] 1000 mx_ hS ?_; clear hS; intro w hS
    refine zdv 0 (fun _ => xmv) ?_
    refine zdv 1 (fun _ => (xfb 0 fd_30_0)) ?_
    refine zdla 2 (fun w hS => (xlb 6 pl_22 hS)) ?_
    refine zdv 3 (fun _ => xmv) ?_
    refine zdv 4 (fun _ => (xix (kk := j) sl_22 hvXcs1)) ?_
    refine zdla 5 (fun w hS => (xlr (u := .int .i64 (scs1.X j)) pl_3 (hS.rowN 3 rfl))) ?_
    refine zdv 6 (fun _ => xmv) ?_
    refine zdv 7 (fun _ => xmv) ?_
    refine zdv 8 (fun _ => (xix (kk := i2) sl_22 (hrwcs1 j (by omega) (by omega)))) ?_
    refine zdla 9 (fun w hS => (xlr (u := .int .i64 (mfcs1 j i2)) pl_3 (hS.rowIn (k := j) 2 rfl (by omega) (by omega)))) ?_
    have hxj := hmk.X j hj0 (by omega)
    have hmj := (prop_used (hmk.pats.2 j hj0 (by omega))).1 i2 hi0 (by omega)
    have hdm := dem_nn hok hi0 (by omega : i2 < p.m)
    have hxm := mul_rng (a := scs1.X j) (b := mfcs1 j i2) (A := 1073741824) (B := 1000) (by omega) (by omega) (by omega) (by omega)
    refine zdv 10 (fun _ => (xmul (r := ((scs1.X j) * (mfcs1 j i2))) (e := rfl))) ?_
    refine zdv 11 (fun _ => (xadd (r := n13 + ((scs1.X j) * (mfcs1 j i2))))) ?_
    refine zdv 12 (fun _ => xas) ?_
    refine zdd <| zbn <| ztn <| zrg ?_
    refine zlv (xadd (r := j + 1)) ?_
    refine zlv xmv ?_
    refine zln <| zlq ⟨n13 + ((scs1.X j) * (mfcs1 j i2)), j + 1, rfl, (by omega), (by omega), ?_, (by omega), rfl, hS⟩
    ·
     rw [sumTo_next _ hj0, hn13, Int.mul_comm (mfcs1 j i2)]
   refine zxt <| ztx <| ztx <| zbh <| ztn <| zsq ?_
   refine zdst [0, 1, 2, 3, 4, 5, 6] [0, 1, 2, 3, 4, 5, 6] 1000 mx_ hS ?_; clear hS; intro w hS
   refine zdv 0 (fun _ => xmv) ?_
   refine zdv 1 (fun _ => (xfb 1 fd_24_1)) ?_
   refine zdla 2 (fun w hS => (xlb 0 pl_22 hS)) ?_
   refine zdv 3 (fun _ => xmv) ?_
   refine zdv 4 (fun _ => (xix (kk := i2) sl_22 h.D.slh)) ?_
   refine zdla 5 (fun w hS => (xlr (u := .int .i64 (p.D i2)) pl_3 (h.D.below hS.below))) ?_
   have hbv := h.iD i2
   refine zdv 6 (fun _ => (xfb 1 fd_30_1)) ?_
   refine zdla 7 (fun w hS => (xlb 6 pl_22 hS)) ?_
   refine zdv 8 (fun _ => xmv) ?_
   refine zdv 9 (fun _ => (xix (kk := i2) sl_22 hvYcs1)) ?_
   refine zdla 10 (fun w hS => (xlr (u := .int .i64 (scs1.Y i2)) pl_3 (hS.rowN 4 rfl))) ?_
   have hdm := dem_nn hok hi0 (by omega : i2 < p.m)
   have hyi := hmk.Y i2 hi0 (by omega)
   have hdy := mul_rng (a := p.D i2) (b := scs1.Y i2) (A := 1000) (B := 1073741824) (by omega) (by omega) (by omega) (by omega)
   have hdd := mul_rng (a := p.D i2) (b := scs1.den) (A := 1000) (B := 1073741824) (by omega) (by omega) (by omega) (by omega)
   have hrw := hmk.rows i2 hi0 (by omega)
   rw [show j = ucs1 by omega] at hn13
   refine zdv 11 (fun _ => (xmul (r := ((p.D i2) * (scs1.Y i2))) (e := rfl))) ?_
   refine zdv 12 (fun _ => (xadd (r := n9 + ((p.D i2) * (scs1.Y i2))))) ?_
   refine zdv 13 (fun _ => xas) ?_
   refine zdd <| ztn <| zsq ?_
   refine zdst [0, 1, 2, 3, 4, 5, 6] [0, 1, 2, 3, 4, 5, 6] 1000 mx_ hS ?_; clear hS; intro w hS
   refine zdv 0 (fun _ => (xfb 1 fd_30_1)) ?_
   refine zdla 1 (fun w hS => (xlb 6 pl_22 hS)) ?_
   refine zdv 2 (fun _ => xmv) ?_
   refine zdv 3 (fun _ => (xix (kk := i2) sl_22 hvYcs1)) ?_
   refine zdla 4 (fun w hS => (xlr (u := .int .i64 (scs1.Y i2)) pl_3 (hS.rowN 4 rfl))) ?_
   refine zdv 5 (fun _ => xlss) ?_
   refine zdv 6 (fun _ => xmv) ?_
   refine zdb 149 ?_ ?_ <;> intro hc
   ·
    refine zdof 7 ?_
    refine zdof 8 ?_
    refine zdof 9 ?_
    refine zdof 10 ?_
    refine zdof 11 ?_
    refine zdof 12 ?_
    refine zdof 13 ?_
    refine zdof 14 ?_
    refine zdof 15 ?_
    refine zdof 16 ?_
    refine zdv 17 (fun _ => xpt) ?_
    refine zdd <| ztn <| zct <| zsr ?_
    refine zlv xas ?_
    refine zlt <| zrt <| zbr <| ztr <| ztr <| zbr <| ztr <| zf1 ⟨_, rfl, ?_⟩
    exfalso
    first | omega | exact absurd (hmk.pats.2 i h0 (by omega)) ‹_›
   refine zdv 7 (fun _ => xmv) ?_
   refine zdv 8 (fun _ => (xfb 1 fd_24_1)) ?_
   refine zdla 9 (fun w hS => (xlb 0 pl_22 hS)) ?_
   refine zdv 10 (fun _ => xmv) ?_
   refine zdv 11 (fun _ => (xix (kk := i2) sl_22 h.D.slh)) ?_
   refine zdla 12 (fun w hS => (xlr (u := .int .i64 (p.D i2)) pl_3 (h.D.below hS.below))) ?_
   have hbv := h.iD i2
   refine zdv 13 (fun _ => (xfb 3 fd_30_3)) ?_
   refine zdla 14 (fun w hS => (xlb 6 pl_3 hS)) ?_
   refine zdv 15 (fun _ => (xmul (r := ((p.D i2) * scs1.den)) (e := rfl))) ?_
   refine zdv 16 (fun _ => xlss) ?_
   refine zdv 17 (fun _ => xpf) ?_
   refine zdd <| ztn ?_
   refine zcif ?_ ?_ <;> intro hc
   ·
    refine zsr ?_
    refine zlv xas ?_
    refine zlt <| zrt <| zbr <| ztr <| ztr <| zbr <| ztr <| zf1 ⟨_, rfl, ?_⟩
    exfalso
    first | omega | exact absurd (hmk.pats.2 i h0 (by omega)) ‹_›
   refine zsk <| zbn <| ztn <| zrg ?_
   refine zlv (xadd (r := i2 + 1)) ?_
   refine zlv xmv ?_
   refine zln <| zlq ⟨n9 + ((p.D i2) * (scs1.Y i2)), i2 + 1, rfl, (by omega), (by omega), ?_, (by omega), rfl, hS⟩
   ·
    rw [sumTo_next _ hi0, hn9]
  refine zxt <| ztx <| ztx <| zbh <| ztn <| zsr ?_
  refine zlv (xfb 2 fd_24_2) ?_
  have e9 : n9 = scs1.val := by rw [hn9, show i2 = p.m by omega]; exact hmk.bY
  refine zlv (xlb 0 pl_3 hS) ?_
  refine zlv (xfb 3 fd_24_3) ?_
  refine zlv (xlb 0 pl_3 hS) ?_
  refine zlv (xadd (r := p.stock + p.kerf)) ?_
  refine zs2 ?_
  refine zlt <| zsq <| zsr ?_
  refine zlv (xfb 0 fd_24_0) ?_
  refine zlv (xlb 0 pl_22 hS) ?_
  refine zlv (xln sl_22 h.L.slh) ?_
  refine zlv xmv ?_
  refine zlt <| zbk <| zlp (fun mm M w => ∃ (rem : Int) (wo : Int) (fx : Int → Int) (i4 : Int), mm = ((p.m - i4).toNat) ∧ (0 ≤ i4) ∧ (i4 ≤ p.m) ∧ (∀ k, 0 ≤ k → k < i4 → 0 ≤ fx k ∧ fx k ≤ p.D k) ∧ (rem = p.stock + p.kerf - Used p fx i4.toNat) ∧ (0 ≤ rem ∧ rem ≤ p.stock + p.kerf) ∧ (wo = sumTo (fun k => fx k * scs1.Y k) i4.toNat) ∧ (0 ≤ wo ∧ wo ≤ 1073741824000 * i4) ∧ M = [(1, vW), (2, .pointer (some ⟨g1, 0, none⟩)), (7, .pointer (some ⟨g3, 0, none⟩)), (8, .int .i64 n8), (9, .int .i64 n9), (16, .int .i64 rem), (17, .int .i64 wo), (169, .int .i64 p.m), (170, .int .i64 i4)] ∧ Sat w0 w [.blk g1 [vL, vD, .int .i64 p.stock, .int .i64 p.kerf], .own vPcs1 1 22 ucs1 vvcs1, .sem (Frame.rows 3 ucs1 vvcs1 mlcs1 mfcs1), .own vXcs1 1 3 scs1.n (ints scs1.X), .own vYcs1 1 3 scs1.m (ints scs1.Y), .blk g2 [vPcs1, vXcs1, vYcs1, .int .i64 scs1.val, .int .i64 scs1.den], .blk g3 [vXcs1, vYcs1, .int .i64 scs1.val, .int .i64 scs1.den]]) ⟨(p.stock + p.kerf), 0, (fun _ => 0), 0, rfl, (by omega), (by omega), ?_, ?_, (by omega), ?_, (by omega), rfl, hS⟩ ?_
  ·
   intro k k0 k1; omega
  ·
   show _ = p.stock + p.kerf - 0; omega
  ·
   rfl
  clear hS w
  rintro mm M w ⟨rem, wo, fx, i4, rfl, h40, h41, hxb, hru, hr0, hwo, hwr, rfl, hS⟩
  refine zsr ?_
  refine zlv xlss ?_
  refine zlt <| zsq ?_
  refine zcif ?_ ?_ <;> intro hc
  ·
   refine zsk <| ztn <| zsq <| zbk <| zsr ?_
   refine zlv xmv ?_
   have hwi := hwb i4
   have hdm := dem_nn hok h40 (by omega : i4 < p.m)
   have hyi := hmk.Y i4 h40 (by omega)
   have hqd := tdiv_abs (a := rem) (d := p.L i4 + p.kerf) (A := 2100) (by omega) (by omega)
   have hq0 := Int.tdiv_nonneg (a := rem) (b := p.L i4 + p.kerf) (by omega) (by omega)
   refine zlv xas ?_
   refine zlz ?_
   refine zlv xas ?_
   refine zlt <| zsq <| zsr ?_
   refine zs2 ?_
   refine zlv (xln sl_25 hW.slh) ?_
   refine zlv xlss ?_
   refine zlt ?_
   refine zcif ?_ ?_ <;> intro hc
   ·
    refine zdst [0, 1, 2, 3, 4, 5, 6] [0, 1, 2, 3, 4, 5, 6] 1000 mx_ hS ?_; clear hS; intro w hS
    refine zdv 0 (fun _ => xmv) ?_
    refine zdv 1 (fun _ => xmv) ?_
    refine zdv 2 (fun _ => (xix (kk := i4) sl_25 hW.slh)) ?_
    refine zdla 3 (fun w hS => (xlr (u := .int .u8 (fw i4)) pl_5 (hW.below hS.below))) ?_
    refine zdv 4 (fun _ => (xcv so_5 it_3)) ?_
    refine zdv 5 (fun _ => (xfb 1 fd_24_1)) ?_
    refine zdla 6 (fun w hS => (xlb 0 pl_22 hS)) ?_
    refine zdv 7 (fun _ => xmv) ?_
    refine zdv 8 (fun _ => (xix (kk := i4) sl_22 h.D.slh)) ?_
    refine zdla 9 (fun w hS => (xlr (u := .int .i64 (p.D i4)) pl_3 (h.D.below hS.below))) ?_
    have hbv := h.iD i4
    refine zdv 10 (fun _ => xmv) ?_
    refine zdv 11 (fun _ => (xfb 0 fd_24_0)) ?_
    refine zdla 12 (fun w hS => (xlb 0 pl_22 hS)) ?_
    refine zdv 13 (fun _ => xmv) ?_
    refine zdv 14 (fun _ => (xix (kk := i4) sl_22 h.L.slh)) ?_
    refine zdla 15 (fun w hS => (xlr (u := .int .i64 (p.L i4)) pl_3 (h.L.below hS.below))) ?_
    have hbv := h.iL i4
    refine zdv 16 (fun _ => (xfb 3 fd_24_3)) ?_
    refine zdla 17 (fun w hS => (xlb 0 pl_3 hS)) ?_
    refine zdv 18 (fun _ => (xadd (r := p.L i4 + p.kerf))) ?_
    refine zdv 19 (fun _ => (xquo (r := (Int.tdiv rem (p.L i4 + p.kerf))))) ?_
    refine zdv 20 (fun _ => (xmin3 (r := (min (min (fw i4) (p.D i4)) (Int.tdiv rem (p.L i4 + p.kerf)))))) ?_
    refine zdv 21 (fun _ => xas) ?_
    refine zdd <| ztn <| zsq ?_
    refine zdst [0, 1, 2, 3, 4, 5, 6] [0, 1, 2, 3, 4, 5, 6] 1000 mx_ hS ?_; clear hS; intro w hS
    refine zdv 0 (fun _ => xmv) ?_
    refine zdv 1 (fun _ => xmv) ?_
    refine zdv 2 (fun _ => (xfb 0 fd_24_0)) ?_
    refine zdla 3 (fun w hS => (xlb 0 pl_22 hS)) ?_
    refine zdv 4 (fun _ => xmv) ?_
    refine zdv 5 (fun _ => (xix (kk := i4) sl_22 h.L.slh)) ?_
    refine zdla 6 (fun w hS => (xlr (u := .int .i64 (p.L i4)) pl_3 (h.L.below hS.below))) ?_
    have hbv := h.iL i4
    refine zdv 7 (fun _ => (xfb 3 fd_24_3)) ?_
    refine zdla 8 (fun w hS => (xlb 0 pl_3 hS)) ?_
    refine zdv 9 (fun _ => (xadd (r := p.L i4 + p.kerf))) ?_
    have hfr := fit_rng (x := (min (min (fw i4) (p.D i4)) (Int.tdiv rem (p.L i4 + p.kerf)))) (c := rem) (s := p.L i4 + p.kerf) (by omega) (by omega) (by omega) (by omega)
    have hxy := mul_rng (a := (min (min (fw i4) (p.D i4)) (Int.tdiv rem (p.L i4 + p.kerf)))) (b := scs1.Y i4) (A := 1000) (B := 1073741824) (by omega) (by omega) (by omega) (by omega)
    refine zdv 10 (fun _ => (xmul (r := ((min (min (fw i4) (p.D i4)) (Int.tdiv rem (p.L i4 + p.kerf))) * (p.L i4 + p.kerf))) (e := rfl))) ?_
    refine zdv 11 (fun _ => (xsub (r := rem - ((min (min (fw i4) (p.D i4)) (Int.tdiv rem (p.L i4 + p.kerf))) * (p.L i4 + p.kerf))))) ?_
    refine zdv 12 (fun _ => xas) ?_
    refine zdd <| ztn <| zrg ?_
    refine zs2 ?_
    refine zlv (xfb 1 fd_30_1) ?_
    refine zlv (xlb 6 pl_22 hS) ?_
    refine zlv xmv ?_
    refine zlv (xix (kk := i4) sl_22 hvYcs1) ?_
    refine zlv (xlr (u := .int .i64 (scs1.Y i4)) pl_3 (hS.rowN 4 rfl)) ?_
    refine zlv (xmul (r := ((min (min (fw i4) (p.D i4)) (Int.tdiv rem (p.L i4 + p.kerf))) * (scs1.Y i4))) (e := rfl)) ?_
    refine zlv (xadd (r := wo + ((min (min (fw i4) (p.D i4)) (Int.tdiv rem (p.L i4 + p.kerf))) * (scs1.Y i4)))) ?_
    refine zlv xas ?_
    refine zln <| zbn <| ztn <| zrg ?_
    refine zlv (xadd (r := i4 + 1)) ?_
    refine zlv xmv ?_
    refine zln <| zlq ⟨rem - ((min (min (fw i4) (p.D i4)) (Int.tdiv rem (p.L i4 + p.kerf))) * (p.L i4 + p.kerf)), wo + ((min (min (fw i4) (p.D i4)) (Int.tdiv rem (p.L i4 + p.kerf))) * (scs1.Y i4)), snoc fx i4 (min (min (fw i4) (p.D i4)) (Int.tdiv rem (p.L i4 + p.kerf))), i4 + 1, rfl, (by omega), (by omega), ?_, ?_, (by omega), ?_, (by omega), rfl, hS⟩
    ·
     intro k k0 k1; by_cases e : k < i4
     · rw [snoc_lt e]; exact hxb k k0 e
     · obtain rfl : k = i4 := by omega
       rw [snoc_at (by omega)]; omega
    ·
     rw [used_snoc h40]; omega
    ·
     rw [sum_snoc h40]; omega
   refine zsk <| ztn <| zsq ?_
   refine zdst [0, 1, 2, 3, 4, 5, 6] [0, 1, 2, 3, 4, 5, 6] 1000 mx_ hS ?_; clear hS; intro w hS
   refine zdv 0 (fun _ => xmv) ?_
   refine zdv 1 (fun _ => xmv) ?_
   refine zdv 2 (fun _ => (xfb 0 fd_24_0)) ?_
   refine zdla 3 (fun w hS => (xlb 0 pl_22 hS)) ?_
   refine zdv 4 (fun _ => xmv) ?_
   refine zdv 5 (fun _ => (xix (kk := i4) sl_22 h.L.slh)) ?_
   refine zdla 6 (fun w hS => (xlr (u := .int .i64 (p.L i4)) pl_3 (h.L.below hS.below))) ?_
   have hbv := h.iL i4
   refine zdv 7 (fun _ => (xfb 3 fd_24_3)) ?_
   refine zdla 8 (fun w hS => (xlb 0 pl_3 hS)) ?_
   refine zdv 9 (fun _ => (xadd (r := p.L i4 + p.kerf))) ?_
   have hfr := fit_rng (x := 0) (c := rem) (s := p.L i4 + p.kerf) (by omega) (by omega) (by omega) (by omega)
   have hxy := mul_rng (a := 0) (b := scs1.Y i4) (A := 1000) (B := 1073741824) (by omega) (by omega) (by omega) (by omega)
   refine zdv 10 (fun _ => (xmul (r := 0))) ?_
   refine zdv 11 (fun _ => (xsub (r := rem))) ?_
   refine zdv 12 (fun _ => xas) ?_
   refine zdd <| ztn <| zrg ?_
   refine zs2 ?_
   refine zlv (xfb 1 fd_30_1) ?_
   refine zlv (xlb 6 pl_22 hS) ?_
   refine zlv xmv ?_
   refine zlv (xix (kk := i4) sl_22 hvYcs1) ?_
   refine zlv (xlr (u := .int .i64 (scs1.Y i4)) pl_3 (hS.rowN 4 rfl)) ?_
   refine zlv (xmul (r := 0)) ?_
   refine zlv (xadd (r := wo)) ?_
   refine zlv xas ?_
   refine zln <| zbn <| ztn <| zrg ?_
   refine zlv (xadd (r := i4 + 1)) ?_
   refine zlv xmv ?_
   refine zln <| zlq ⟨rem, wo, snoc fx i4 0, i4 + 1, rfl, (by omega), (by omega), ?_, ?_, (by omega), ?_, (by omega), rfl, hS⟩
   ·
    intro k k0 k1; by_cases e : k < i4
    · rw [snoc_lt e]; exact hxb k k0 e
    · obtain rfl : k = i4 := by omega
      rw [snoc_at (by omega)]; omega
   ·
    rw [used_snoc h40]; omega
   ·
    rw [sum_snoc h40]; omega
  refine zxt <| ztx <| ztx <| zbh <| ztn <| zsr ?_
  refine zlv xmv ?_
  have e17 : wo ≤ scs1.den := by
    have h9 := wc_top hok (y := scs1.Y) (x := fx) (fun k k0 k1 => hxb k k0 (by omega)) (by rw [show i4 = p.m by omega] at hru; omega)
    rw [show i4 = p.m by omega] at hwo; omega
  refine zlv (xfb 2 fd_30_2) ?_
  refine zlv (xlb 6 pl_3 hS) ?_
  refine zs2 ?_
  refine zlb 224 ?_ ?_ <;> intro hc
  ·
   refine zlv xmv ?_
   refine zlv (xfb 2 fd_30_2) ?_
   refine zlv (xlb 6 pl_3 hS) ?_
   refine zs3 ?_
   refine zlb 230 ?_ ?_ <;> intro hc
   ·
    refine zlv xmv ?_
    refine zlv (xfb 3 fd_30_3) ?_
    refine zlv (xlb 6 pl_3 hS) ?_
    refine zs3 ?_
    refine zlt <| zrt <| zf1 ⟨_, rfl, ?_⟩
    exact ⟨(true_B (by first | omega | exact ⟨⟨e8, e9⟩, e17⟩)).symm, hS.nl⟩
   iterate 4 refine zlo ?_
   refine zs2 ?_
   refine zlt <| zrt <| zf1 ⟨_, rfl, ?_⟩
   exfalso
   first | omega | exact absurd (hmk.pats.2 i h0 (by omega)) ‹_›
  iterate 4 refine zlo ?_
  refine zs2 ?_
  iterate 4 refine zlo ?_
  refine zs2 ?_
  refine zlt <| zrt <| zf1 ⟨_, rfl, ?_⟩
  exfalso
  first | omega | exact absurd (hmk.pats.2 i h0 (by omega)) ‹_›

end Go.Proofs.Ytdlojjhknmmmlaa
