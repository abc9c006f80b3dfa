/- The walk of ColumnFinal. -/
import Derived.Test.YtdlojjhknmmmlaaGv
import Derived.Test.YtdlojjhknmmmlaaK12
namespace Go.Proofs.Ytdlojjhknmmmlaa
open Go Go.RowKit Go.Proofs.Gw
set_option linter.unusedVariables false

theorem cl_13 : calledT Try.prog 13 = true := by kernel_rfl
theorem fd_32_0 : fieldT Try.prog 32 0 = some 0 := by kernel_rfl
theorem pl_5 : plainT Try.prog 5 = true := by kernel_rfl
theorem sl_25 : sliceT Try.prog 25 = some (5, 1) := by kernel_rfl
set_option maxHeartbeats 4000000 in
set_option maxRecDepth 20000 in
theorem law_cfinal {vL vD : Value} {p : Prob} {vW : Value} {nw : Int} {fw : Int → Int} (w0 : World) (h : PAt w0 vL vD p) (hW : Row w0 vW 1 nw (fun k => .int .u8 (fw k))) (hwb : ∀ k, 0 ≤ fw k ∧ fw k ≤ 255) :
    Calls Try.prog 3 [.agg #[vL, vD, .int .i64 p.stock, .int .i64 p.kerf], vW].toArray w0 fun e w => ∃ v, e = .returned v ∧ v = .bool true ∧ Sat w0 w [] := by
  have hm := h.L.slh.n0; have hm1 := h.L.slh.n1; have hd := h.D.slh.n0; have hd1 := h.D.slh.n1; have hs := h.is; have hk := h.ik
  have hnw := hW.slh.n0
  refine zenG Try.func3 Try.ntmps3 fun w hS => ?_
  refine zsr ?_
  refine zla (xbx (cs := [_, _, _, _]) hS) ?_; rintro _ w ⟨g1, rfl, hS⟩
  replace hS := hS.n1
  refine zlv xas ?_
  refine zlt <| zsq <| zsr ?_
  refine zlc (xc0 cl_9) (c_awake31 w) ?_; rintro _ w ⟨rfl, hS'⟩
  replace hS := hS.cmp hS'; clear hS'
  refine zs2 ?_
  refine zlv (xls 0 st_24 hS) ?_
  refine zlc (xc0 cl_10) (c_few28 (p := p) w (h.below hS.below)) ?_; rintro _ w ⟨rfl, hS'⟩
  replace hS := hS.cmp hS'; clear hS'
  refine zs3 ?_
  refine zlb 27 ?_ ?_ <;> intro hc
  ·
   iterate 3 refine zlo ?_
   refine zlv xpt ?_
   refine zlt <| zct <| zsr ?_
   refine zlc (xc0 cl_9) (c_awake31 w) ?_; rintro _ w ⟨rfl, hS'⟩
   replace hS := hS.cmp hS'; clear hS'
   refine zlv xas ?_
   refine zlt <| zrt <| ztr <| zf1 ⟨_, rfl, ?_⟩
   exact ⟨rfl, hS.nl⟩
  refine zlv (xls 0 st_24 hS) ?_
  refine zlc (xc0 cl_11) (c_rvalid28 (p := p) w (h.below hS.below)) ?_; rintro _ w ⟨rfl, hS'⟩
  replace hS := hS.cmp hS'; clear hS'
  refine zs2 ?_
  refine zlt ?_
  refine zcif ?_ ?_ <;> intro hc
  ·
   refine zsr ?_
   refine zlc (xc0 cl_9) (c_awake31 w) ?_; rintro _ w ⟨rfl, hS'⟩
   replace hS := hS.cmp hS'; clear hS'
   refine zlv xas ?_
   refine zlt <| zrt <| ztr <| zf1 ⟨_, rfl, ?_⟩
   exact ⟨rfl, hS.nl⟩
  refine zsk <| ztn <| zsr ?_
  refine zlv (xls 0 st_24 hS) ?_
  have hok : p.Ok := by first | assumption | exact Classical.not_not.1 ‹¬ ¬ p.Ok›
  have hfew : Few28 p := by first | assumption | exact Classical.not_not.1 ‹¬ ¬ Few28 p›
  have hm1 := hok.m1; have hm2 := hok.m2; have hmd := hok.d
  refine zlc (xc0 cl_12) (c_csolve (p := p) w (h.below hS.below)) ?_; rintro _ w ⟨vPcs1, vvcs1, vXcs1, vYcs1, ucs1, mlcs1, mfcs1, scs1, ecs1, rfl, hcocs1, hvPcs1, hvXcs1, hvYcs1, hS'⟩
  replace hS : Sat w0 w [.blk g1 [vL, vD, .int .i64 p.stock, .int .i64 p.kerf], .own vPcs1 1 22 ucs1 vvcs1, .sem (Frame.rows 3 ucs1 vvcs1 mlcs1 mfcs1), .own vXcs1 1 3 scs1.n (ints scs1.X), .own vYcs1 1 3 scs1.m (ints scs1.Y)] := hS.comp hS'; clear hS'
  have hrwcs1 := fun k (k0 : 0 ≤ k) (k1 : k < ucs1) => hS.slhIn 2 rfl k0 k1
  refine zs3 ?_
  refine zla (xal (cs := [_, _, _, _, _]) el_32 hS) ?_; rintro _ w ⟨g2, rfl, hS⟩
  replace hS := hS.n6
  refine zle (xsw 5 st_32 hS (hd := (ones_cons hvPcs1.one (ones_cons hvXcs1.one (ones_cons hvYcs1.one (ones_cons rfl (ones_cons rfl ones_nil))))))) ?_; clear hS; rintro w hS
  replace hS := hS.n6
  refine zlv xas ?_
  refine zlt <| zsq <| zsr ?_
  refine zs2 ?_
  have herr := hcocs1.errs hok
  refine zlt ?_
  refine zcif ?_ ?_ <;> intro hc
  ·
   refine zsr ?_
   refine zlv (xfb 0 fd_32_0) ?_
   refine zlv (xlb 5 pl_28 hS) ?_
   refine zlv (xln sl_28 hvPcs1) ?_
   refine zs2 ?_
   refine zlb 44 ?_ ?_ <;> intro hc
   ·
    refine zs3 ?_
    refine zlb 47 ?_ ?_ <;> intro hc
    ·
     iterate 2 refine zlo ?_
     refine zs3 ?_
     refine zlt <| zrt <| ztr <| zf1 ⟨_, rfl, ?_⟩
     exact ⟨rfl, hS.nl⟩
    refine zs5 ?_
    refine zlt <| zrt <| ztr <| zf1 ⟨_, rfl, ?_⟩
    exact ⟨(true_B (by first | omega | exact ⟨⟨e8, e9⟩, e17⟩)).symm, hS.nl⟩
   iterate 6 refine zlo ?_
   refine zs2 ?_
   refine zlt <| zrt <| ztr <| zf1 ⟨_, rfl, ?_⟩
   exfalso
   first | omega | exact absurd (hmk.pats.2 i h0 (by omega)) ‹_›
  refine zsk <| ztn <| zsr ?_
  refine zlv (xfb 1 fd_32_1) ?_
  refine zlv (xlp 5 (ds := [vXcs1, vYcs1, .int .i64 scs1.val, .int .i64 scs1.den]) st_30 hS) ?_
  have hu0 := hvPcs1.n0
  obtain ⟨hmk, hwc⟩ := hcocs1.okS hvPcs1.n0 (by omega)
  have hd1 := hmk.d1; have hd2 := hmk.d2; have hv := hmk.v; have hsn := hmk.n; have hsm := hmk.m; have hu60 := hcocs1.few (by omega)
  have hs1 := hok.s1; have hs2 := hok.s2; have hk1 := hok.k1; have hk2 := hok.k2
  refine zla (xal (cs := [_, _, _, _]) el_30 hS) ?_; rintro _ w ⟨g3, rfl, hS⟩
  replace hS := hS.n7
  refine zle (xsw 6 st_30 hS (hd := (ones_cons hvXcs1.one (ones_cons hvYcs1.one (ones_cons rfl (ones_cons rfl ones_nil)))))) ?_; clear hS; rintro w hS
  replace hS := hS.n7
  refine zlt <| zsq <| zsr ?_
  refine zlv (xfb 3 fd_30_3) ?_
  refine zlv (xlb 6 pl_3 hS) ?_
  refine zs2 ?_
  refine zlb 57 ?_ ?_ <;> intro hc
  ·
   iterate 7 refine zlo ?_
   refine zs2 ?_
   iterate 7 refine zlo ?_
   refine zlv xpt ?_
   refine zlt <| zct <| zsr ?_
   refine zlv xas ?_
   refine zlt <| zrt <| ztr <| zf1 ⟨_, rfl, ?_⟩
   exfalso
   first | omega | exact absurd (hmk.pats.2 i h0 (by omega)) ‹_›
  refine zlv (xfb 0 fd_30_0) ?_
  refine zlv (xlb 6 pl_22 hS) ?_
  refine zlv (xln sl_22 hvXcs1) ?_
  refine zlv (xfb 0 fd_32_0) ?_
  refine zlv (xlb 5 pl_28 hS) ?_
  refine zlv (xln sl_28 hvPcs1) ?_
  refine zs3 ?_
  refine zlb 66 ?_ ?_ <;> intro hc
  ·
   iterate 7 refine zlo ?_
   refine zlv xpt ?_
   refine zlt <| zct <| zsr ?_
   refine zlv xas ?_
   refine zlt <| zrt <| ztr <| zf1 ⟨_, rfl, ?_⟩
   exfalso
   first | omega | exact absurd (hmk.pats.2 i h0 (by omega)) ‹_›
  refine zlv (xfb 1 fd_30_1) ?_
  refine zlv (xlb 6 pl_22 hS) ?_
  refine zlv (xln sl_22 hvYcs1) ?_
  refine zlv (xfb 0 fd_24_0) ?_
  refine zlv (xlb 0 pl_22 hS) ?_
  refine zlv (xln sl_22 h.L.slh) ?_
  refine zs2 ?_
  refine zlt ?_
  refine zcif ?_ ?_ <;> intro hc
  ·
   refine zsr ?_
   refine zlv xas ?_
   refine zlt <| zrt <| ztr <| zf1 ⟨_, rfl, ?_⟩
   exfalso
   first | omega | exact absurd (hmk.pats.2 i h0 (by omega)) ‹_›
  refine zsk <| ztn <| zsr ?_
  refine zs2 ?_
  refine zlt <| zsq <| zsr ?_
  refine zlv (xfb 0 fd_32_0) ?_
  refine zlv (xlb 5 pl_28 hS) ?_
  refine zlv (xln sl_28 hvPcs1) ?_
  refine zlv xmv ?_
  refine zlt <| zbk <| zlp (fun mm M w => ∃ (n8 : Int) (i : Int), mm = ((ucs1 - i).toNat) ∧ (0 ≤ i) ∧ (i ≤ ucs1) ∧ (n8 = sumTo scs1.X i.toNat) ∧ (0 ≤ n8 ∧ n8 ≤ 1073741824 * i) ∧ M = [(1, vW), (2, .pointer (some ⟨g1, 0, none⟩)), (5, .pointer (some ⟨g2, 0, none⟩)), (7, .pointer (some ⟨g3, 0, none⟩)), (8, .int .i64 n8), (9, .int .i64 0), (76, vPcs1), (77, .int .i64 ucs1), (78, .int .i64 i)] ∧ Sat w0 w [.blk g1 [vL, vD, .int .i64 p.stock, .int .i64 p.kerf], .own vPcs1 1 22 ucs1 vvcs1, .sem (Frame.rows 3 ucs1 vvcs1 mlcs1 mfcs1), .own vXcs1 1 3 scs1.n (ints scs1.X), .own vYcs1 1 3 scs1.m (ints scs1.Y), .blk g2 [vPcs1, vXcs1, vYcs1, .int .i64 scs1.val, .int .i64 scs1.den], .blk g3 [vXcs1, vYcs1, .int .i64 scs1.val, .int .i64 scs1.den]]) ⟨0, 0, rfl, (by omega), (by omega), ?_, (by omega), rfl, hS⟩ ?_
  ·
   rfl
  clear hS w
  rintro mm M w ⟨n8, i, rfl, h0, h1, hn8, hb8, rfl, hS⟩
  refine zsr ?_
  refine zlv xlss ?_
  refine zlt <| zsq ?_
  refine zcif ?_ ?_ <;> intro hc
  ·
   refine zsk <| ztn <| zsq <| zbk <| zsr ?_
   refine zlv xmv ?_
   refine zlv (xix (kk := i) sl_28 hvPcs1) ?_
   refine zlv (xlr (u := (vvcs1 i)) pl_22 (hS.rowN 1 rfl)) ?_
   refine zs2 ?_
   refine zlt <| zsq <| zsr ?_
   refine zlv (xfb 0 fd_30_0) ?_
   have hxi := hmk.X i h0 (by omega)
   refine zlv (xlb 6 pl_22 hS) ?_
   refine zlv xmv ?_
   refine zlv (xix (kk := i) sl_22 hvXcs1) ?_
   refine zlv (xlr (u := .int .i64 (scs1.X i)) pl_3 (hS.rowN 3 rfl)) ?_
   refine zs2 ?_
   refine zlb 89 ?_ ?_ <;> intro hc
   ·
    iterate 4 refine zlo ?_
    refine zlv xpt ?_
    refine zlt <| zct <| zsr ?_
    refine zlv xas ?_
    refine zlt <| zrt <| ztr <| zbr <| ztr <| ztr <| zbr <| ztr <| zf1 ⟨_, rfl, ?_⟩
    exfalso
    first | omega | exact absurd (hmk.pats.2 i h0 (by omega)) ‹_›
   refine zlv (xls 0 st_24 hS) ?_
   refine zlv xmv ?_
   refine zlc (xc0 cl_13) (c_rproper28 (p := p) w (h.below hS.below) (hS.rowIn (k := i) 2 rfl (by omega) (by omega))) ?_; rintro _ w ⟨rfl, hS'⟩
   replace hS := hS.cmp hS'; clear hS'
   refine zs2 ?_
   refine zlt ?_
   refine zcif ?_ ?_ <;> intro hc
   ·
    refine zsr ?_
    refine zlv xas ?_
    refine zlt <| zrt <| ztr <| zbr <| ztr <| ztr <| zbr <| ztr <| zf1 ⟨_, rfl, ?_⟩
    exfalso
    first | omega | exact absurd (hmk.pats.2 i h0 (by omega)) ‹_›
   refine zsk <| ztn <| zrg ?_
   refine zlv xmv ?_
   refine zlv (xfb 0 fd_30_0) ?_
   refine zlv (xlb 6 pl_22 hS) ?_
   refine zlv xmv ?_
   refine zlv (xix (kk := i) sl_22 hvXcs1) ?_
   refine zlv (xlr (u := .int .i64 (scs1.X i)) pl_3 (hS.rowN 3 rfl)) ?_
   refine zlv (xadd (r := n8 + (scs1.X i))) ?_
   refine zlv xas ?_
   refine zln <| zbn <| ztn <| zrg ?_
   refine zlv (xadd (r := i + 1)) ?_
   refine zlv xmv ?_
   refine zln <| zlq ⟨n8 + (scs1.X i), i + 1, rfl, (by omega), (by omega), ?_, (by omega), rfl, hS⟩
   ·
    rw [sumTo_next _ h0, hn8]
  refine zxt <| ztx <| ztx <| zbh <| ztn <| zsq <| zsr ?_
  refine zlv (xfb 0 fd_24_0) ?_
  have e8 : n8 = scs1.val := by rw [hn8, show i = ucs1 by omega]; exact hmk.cX
  refine zlv (xlb 0 pl_22 hS) ?_
  refine zlv (xln sl_22 h.L.slh) ?_
  refine zlv xmv ?_
  refine zlt <| zbk <| zlp (fun mm M w => ∃ (n9 : Int) (i2 : Int), mm = ((p.m - i2).toNat) ∧ (0 ≤ i2) ∧ (i2 ≤ p.m) ∧ (n9 = sumTo (fun k => p.D k * scs1.Y k) i2.toNat) ∧ (0 ≤ n9 ∧ n9 ≤ 1073741824000 * i2) ∧ M = [(1, vW), (2, .pointer (some ⟨g1, 0, none⟩)), (5, .pointer (some ⟨g2, 0, none⟩)), (7, .pointer (some ⟨g3, 0, none⟩)), (8, .int .i64 n8), (9, .int .i64 n9), (105, .int .i64 p.m), (106, .int .i64 i2)] ∧ Sat w0 w [.blk g1 [vL, vD, .int .i64 p.stock, .int .i64 p.kerf], .own vPcs1 1 22 ucs1 vvcs1, .sem (Frame.rows 3 ucs1 vvcs1 mlcs1 mfcs1), .own vXcs1 1 3 scs1.n (ints scs1.X), .own vYcs1 1 3 scs1.m (ints scs1.Y), .blk g2 [vPcs1, vXcs1, vYcs1, .int .i64 scs1.val, .int .i64 scs1.den], .blk g3 [vXcs1, vYcs1, .int .i64 scs1.val, .int .i64 scs1.den]]) ⟨0, 0, rfl, (by omega), (by omega), ?_, (by omega), rfl, hS⟩ ?_
  ·
   rfl
  clear hS w
  rintro mm M w ⟨n9, i2, rfl, hi0, hi1, hn9, hb9, rfl, hS⟩
  refine zsr ?_
  refine zlv xlss ?_
  refine zlt <| zsq ?_
  refine zcif ?_ ?_ <;> intro hc
  ·
   refine zsk <| ztn <| zsq <| zbk <| zsr ?_
   refine zs2 ?_
   refine zlz ?_
   refine zlv xas ?_
   refine zlt <| zsq <| zsr ?_
   refine zlv (xfb 0 fd_32_0) ?_
   refine zlv (xlb 5 pl_28 hS) ?_
   refine zlv (xln sl_28 hvPcs1) ?_
   refine zlv xmv ?_
   refine zlt <| zbk <| zlp (fun mm M w => ∃ (n13 : Int) (j : Int), mm = ((ucs1 - j).toNat) ∧ (0 ≤ j) ∧ (j ≤ ucs1) ∧ (n13 = sumTo (fun j => mfcs1 j i2 * scs1.X j) j.toNat) ∧ (0 ≤ n13 ∧ n13 ≤ 1073741824000 * j) ∧ M = [(1, vW), (2, .pointer (some ⟨g1, 0, none⟩)), (5, .pointer (some ⟨g2, 0, none⟩)), (7, .pointer (some ⟨g3, 0, none⟩)), (8, .int .i64 n8), (9, .int .i64 n9), (12, .int .i64 i2), (13, .int .i64 n13), (105, .int .i64 p.m), (106, .int .i64 i2), (110, vPcs1), (111, .int .i64 ucs1), (112, .int .i64 j)] ∧ Sat w0 w [.blk g1 [vL, vD, .int .i64 p.stock, .int .i64 p.kerf], .own vPcs1 1 22 ucs1 vvcs1, .sem (Frame.rows 3 ucs1 vvcs1 mlcs1 mfcs1), .own vXcs1 1 3 scs1.n (ints scs1.X), .own vYcs1 1 3 scs1.m (ints scs1.Y), .blk g2 [vPcs1, vXcs1, vYcs1, .int .i64 scs1.val, .int .i64 scs1.den], .blk g3 [vXcs1, vYcs1, .int .i64 scs1.val, .int .i64 scs1.den]]) ⟨0, 0, rfl, (by omega), (by omega), ?_, (by omega), rfl, hS⟩ ?_
   ·
    rfl
   clear hS w
   rintro mm M w ⟨n13, j, rfl, hj0, hj1, hn13, hb13, rfl, hS⟩
   refine zsr ?_
   refine zlv xlss ?_
   refine zlt <| zsq ?_
   refine zcif ?_ ?_ <;> intro hc
   ·
    refine zsk <| ztn <| zsq <| zbk <| zsr ?_
    refine zlv xmv ?_
    refine zlv (xix (kk := j) sl_28 hvPcs1) ?_
    refine zlv (xlr (u := (vvcs1 j)) pl_22 (hS.rowN 1 rfl)) ?_
    have hmq := (hmk.pats.2 j hj0 (by omega)).1.eq
    refine zs2 ?_
    refine zlt ?_
    refine zdst [0, 1, 2, 3, 4, 5, 6] [0, 1, 2, 3, 4, 5, 6] 1000 mx_ hS ?_; clear hS; intro w hS
    refine zdv 0 (fun _ => xmv) ?_
    refine zdv 1 (fun _ => (xfb 0 fd_30_0)) ?_
    refine zdla 2 (fun w hS => (xlb 6 pl_22 hS)) ?_
    refine zdv 3 (fun _ => xmv) ?_
    refine zdv 4 (fun _ => (xix (kk := j) sl_22 hvXcs1)) ?_
    refine zdla 5 (fun w hS => (xlr (u := .int .i64 (scs1.X j)) pl_3 (hS.rowN 3 rfl))) ?_
    refine zdv 6 (fun _ => xmv) ?_
    refine zdv 7 (fun _ => xmv) ?_
    refine zdv 8 (fun _ => (xix (kk := i2) sl_22 (hrwcs1 j (by omega) (by omega)))) ?_
    refine zdla 9 (fun w hS => (xlr (u := .int .i64 (mfcs1 j i2)) pl_3 (hS.rowIn (k := j) 2 rfl (by omega) (by omega)))) ?_
    have hxj := hmk.X j hj0 (by omega)
    have hmj := (prop_used (hmk.pats.2 j hj0 (by omega))).1 i2 hi0 (by omega)
    have hdm := dem_nn hok hi0 (by omega : i2 < p.m)
    have hxm := mul_rng (a := scs1.X j) (b := mfcs1 j i2) (A := 1073741824) (B := 1000) (by omega) (by omega) (by omega) (by omega)
    refine zdv 10 (fun _ => (xmul (r := ((scs1.X j) * (mfcs1 j i2))) (e := rfl))) ?_
    refine zdv 11 (fun _ => (xadd (r := n13 + ((scs1.X j) * (mfcs1 j i2))))) ?_
    refine zdv 12 (fun _ => xas) ?_
    refine zdd <| zbn <| ztn <| zrg ?_
    refine zlv (xadd (r := j + 1)) ?_
    refine zlv xmv ?_
    refine zln <| zlq ⟨n13 + ((scs1.X j) * (mfcs1 j i2)), j + 1, rfl, (by omega), (by omega), ?_, (by omega), rfl, hS⟩
    ·
     rw [sumTo_next _ hj0, hn13, Int.mul_comm (mfcs1 j i2)]
   refine zxt <| ztx <| ztx <| zbh <| ztn <| zsq ?_
   refine zdst [0, 1, 2, 3, 4, 5, 6] [0, 1, 2, 3, 4, 5, 6] 1000 mx_ hS ?_; clear hS; intro w hS
   refine zdv 0 (fun _ => xmv) ?_
   refine zdv 1 (fun _ => (xfb 1 fd_24_1)) ?_
   refine zdla 2 (fun w hS => (xlb 0 pl_22 hS)) ?_
   refine zdv 3 (fun _ => xmv) ?_
   refine zdv 4 (fun _ => (xix (kk := i2) sl_22 h.D.slh)) ?_
   refine zdla 5 (fun w hS => (xlr (u := .int .i64 (p.D i2)) pl_3 (h.D.below hS.below))) ?_
   have hbv := h.iD i2
   refine zdv 6 (fun _ => (xfb 1 fd_30_1)) ?_
   refine zdla 7 (fun w hS => (xlb 6 pl_22 hS)) ?_
   refine zdv 8 (fun _ => xmv) ?_
   refine zdv 9 (fun _ => (xix (kk := i2) sl_22 hvYcs1)) ?_
   refine zdla 10 (fun w hS => (xlr (u := .int .i64 (scs1.Y i2)) pl_3 (hS.rowN 4 rfl))) ?_
   have hdm := dem_nn hok hi0 (by omega : i2 < p.m)
   have hyi := hmk.Y i2 hi0 (by omega)
   have hdy := mul_rng (a := p.D i2) (b := scs1.Y i2) (A := 1000) (B := 1073741824) (by omega) (by omega) (by omega) (by omega)
   have hdd := mul_rng (a := p.D i2) (b := scs1.den) (A := 1000) (B := 1073741824) (by omega) (by omega) (by omega) (by omega)
   have hrw := hmk.rows i2 hi0 (by omega)
   rw [show j = ucs1 by omega] at hn13
   refine zdv 11 (fun _ => (xmul (r := ((p.D i2) * (scs1.Y i2))) (e := rfl))) ?_
   refine zdv 12 (fun _ => (xadd (r := n9 + ((p.D i2) * (scs1.Y i2))))) ?_
   refine zdv 13 (fun _ => xas) ?_
   refine zdd <| ztn <| zsq ?_
   refine zdst [0, 1, 2, 3, 4, 5, 6] [0, 1, 2, 3, 4, 5, 6] 1000 mx_ hS ?_; clear hS; intro w hS
   refine zdv 0 (fun _ => (xfb 1 fd_30_1)) ?_
   refine zdla 1 (fun w hS => (xlb 6 pl_22 hS)) ?_
   refine zdv 2 (fun _ => xmv) ?_
   refine zdv 3 (fun _ => (xix (kk := i2) sl_22 hvYcs1)) ?_
   refine zdla 4 (fun w hS => (xlr (u := .int .i64 (scs1.Y i2)) pl_3 (hS.rowN 4 rfl))) ?_
   refine zdv 5 (fun _ => xlss) ?_
   refine zdv 6 (fun _ => xmv) ?_
   refine zdb 149 ?_ ?_ <;> intro hc
   ·
    refine zdof 7 ?_
    refine zdof 8 ?_
    refine zdof 9 ?_
    refine zdof 10 ?_
    refine zdof 11 ?_
    refine zdof 12 ?_
    refine zdof 13 ?_
    refine zdof 14 ?_
    refine zdof 15 ?_
    refine zdof 16 ?_
    refine zdv 17 (fun _ => xpt) ?_
    refine zdd <| ztn <| zct <| zsr ?_
    refine zlv xas ?_
    refine zlt <| zrt <| zbr <| ztr <| ztr <| zbr <| ztr <| zf1 ⟨_, rfl, ?_⟩
    exfalso
    first | omega | exact absurd (hmk.pats.2 i h0 (by omega)) ‹_›
   refine zdv 7 (fun _ => xmv) ?_
   refine zdv 8 (fun _ => (xfb 1 fd_24_1)) ?_
   refine zdla 9 (fun w hS => (xlb 0 pl_22 hS)) ?_
   refine zdv 10 (fun _ => xmv) ?_
   refine zdv 11 (fun _ => (xix (kk := i2) sl_22 h.D.slh)) ?_
   refine zdla 12 (fun w hS => (xlr (u := .int .i64 (p.D i2)) pl_3 (h.D.below hS.below))) ?_
   have hbv := h.iD i2
   refine zdv 13 (fun _ => (xfb 3 fd_30_3)) ?_
   refine zdla 14 (fun w hS => (xlb 6 pl_3 hS)) ?_
   refine zdv 15 (fun _ => (xmul (r := ((p.D i2) * scs1.den)) (e := rfl))) ?_
   refine zdv 16 (fun _ => xlss) ?_
   refine zdv 17 (fun _ => xpf) ?_
   refine zdd <| ztn ?_
   refine zcif ?_ ?_ <;> intro hc
   ·
    refine zsr ?_
    refine zlv xas ?_
    refine zlt <| zrt <| zbr <| ztr <| ztr <| zbr <| ztr <| zf1 ⟨_, rfl, ?_⟩
    exfalso
    first | omega | exact absurd (hmk.pats.2 i h0 (by omega)) ‹_›
   refine zsk <| zbn <| ztn <| zrg ?_
   refine zlv (xadd (r := i2 + 1)) ?_
   refine zlv xmv ?_
   refine zln <| zlq ⟨n9 + ((p.D i2) * (scs1.Y i2)), i2 + 1, rfl, (by omega), (by omega), ?_, (by omega), rfl, hS⟩
   ·
    rw [sumTo_next _ hi0, hn9]
  refine zxt <| ztx <| ztx <| zbh <| ztn <| zsr ?_
  refine zlv (xfb 2 fd_24_2) ?_
  have e9 : n9 = scs1.val := by rw [hn9, show i2 = p.m by omega]; exact hmk.bY
  refine zlv (xlb 0 pl_3 hS) ?_
  refine zlv (xfb 3 fd_24_3) ?_
  refine zlv (xlb 0 pl_3 hS) ?_
  refine zlv (xadd (r := p.stock + p.kerf)) ?_
  refine zs2 ?_
  refine zlt <| zsq <| zsr ?_
  refine zlv (xfb 0 fd_24_0) ?_
  refine zlv (xlb 0 pl_22 hS) ?_
  refine zlv (xln sl_22 h.L.slh) ?_
  refine zlv xmv ?_
  refine zlt <| zbk <| zlp (fun mm M w => ∃ (rem : Int) (wo : Int) (fx : Int → Int) (i4 : Int), mm = ((p.m - i4).toNat) ∧ (0 ≤ i4) ∧ (i4 ≤ p.m) ∧ (∀ k, 0 ≤ k → k < i4 → 0 ≤ fx k ∧ fx k ≤ p.D k) ∧ (rem = p.stock + p.kerf - Used p fx i4.toNat) ∧ (0 ≤ rem ∧ rem ≤ p.stock + p.kerf) ∧ (wo = sumTo (fun k => fx k * scs1.Y k) i4.toNat) ∧ (0 ≤ wo ∧ wo ≤ 1073741824000 * i4) ∧ M = [(1, vW), (2, .pointer (some ⟨g1, 0, none⟩)), (7, .pointer (some ⟨g3, 0, none⟩)), (8, .int .i64 n8), (9, .int .i64 n9), (16, .int .i64 rem), (17, .int .i64 wo), (169, .int .i64 p.m), (170, .int .i64 i4)] ∧ Sat w0 w [.blk g1 [vL, vD, .int .i64 p.stock, .int .i64 p.kerf], .own vPcs1 1 22 ucs1 vvcs1, .sem (Frame.rows 3 ucs1 vvcs1 mlcs1 mfcs1), .own vXcs1 1 3 scs1.n (ints scs1.X), .own vYcs1 1 3 scs1.m (ints scs1.Y), .blk g2 [vPcs1, vXcs1, vYcs1, .int .i64 scs1.val, .int .i64 scs1.den], .blk g3 [vXcs1, vYcs1, .int .i64 scs1.val, .int .i64 scs1.den]]) ⟨(p.stock + p.kerf), 0, (fun _ => 0), 0, rfl, (by omega), (by omega), ?_, ?_, (by omega), ?_, (by omega), rfl, hS⟩ ?_
  ·
   intro k k0 k1; omega
  ·
   show _ = p.stock + p.kerf - 0; omega
  ·
   rfl
  clear hS w
  rintro mm M w ⟨rem, wo, fx, i4, rfl, h40, h41, hxb, hru, hr0, hwo, hwr, rfl, hS⟩
  refine zsr ?_
  refine zlv xlss ?_
  refine zlt <| zsq ?_
  refine zcif ?_ ?_ <;> intro hc
  ·
   refine zsk <| ztn <| zsq <| zbk <| zsr ?_
   refine zlv xmv ?_
   have hwi := hwb i4
   have hdm := dem_nn hok h40 (by omega : i4 < p.m)
   have hyi := hmk.Y i4 h40 (by omega)
   have hqd := tdiv_abs (a := rem) (d := p.L i4 + p.kerf) (A := 2100) (by omega) (by omega)
   have hq0 := Int.tdiv_nonneg (a := rem) (b := p.L i4 + p.kerf) (by omega) (by omega)
   refine zlv xas ?_
   refine zlz ?_
   refine zlv xas ?_
   refine zlt <| zsq <| zsr ?_
   refine zs2 ?_
   refine zlv (xln sl_25 hW.slh) ?_
   refine zlv xlss ?_
   refine zlt ?_
   refine zcif ?_ ?_ <;> intro hc
   ·
    refine zdst [0, 1, 2, 3, 4, 5, 6] [0, 1, 2, 3, 4, 5, 6] 1000 mx_ hS ?_; clear hS; intro w hS
    refine zdv 0 (fun _ => xmv) ?_
    refine zdv 1 (fun _ => xmv) ?_
    refine zdv 2 (fun _ => (xix (kk := i4) sl_25 hW.slh)) ?_
    refine zdla 3 (fun w hS => (xlr (u := .int .u8 (fw i4)) pl_5 (hW.below hS.below))) ?_
    refine zdv 4 (fun _ => (xcv so_5 it_3)) ?_
    refine zdv 5 (fun _ => (xfb 1 fd_24_1)) ?_
    refine zdla 6 (fun w hS => (xlb 0 pl_22 hS)) ?_
    refine zdv 7 (fun _ => xmv) ?_
    refine zdv 8 (fun _ => (xix (kk := i4) sl_22 h.D.slh)) ?_
    refine zdla 9 (fun w hS => (xlr (u := .int .i64 (p.D i4)) pl_3 (h.D.below hS.below))) ?_
    have hbv := h.iD i4
    refine zdv 10 (fun _ => xmv) ?_
    refine zdv 11 (fun _ => (xfb 0 fd_24_0)) ?_
    refine zdla 12 (fun w hS => (xlb 0 pl_22 hS)) ?_
    refine zdv 13 (fun _ => xmv) ?_
    refine zdv 14 (fun _ => (xix (kk := i4) sl_22 h.L.slh)) ?_
    refine zdla 15 (fun w hS => (xlr (u := .int .i64 (p.L i4)) pl_3 (h.L.below hS.below))) ?_
    have hbv := h.iL i4
    refine zdv 16 (fun _ => (xfb 3 fd_24_3)) ?_
    refine zdla 17 (fun w hS => (xlb 0 pl_3 hS)) ?_
    refine zdv 18 (fun _ => (xadd (r := p.L i4 + p.kerf))) ?_
    refine zdv 19 (fun _ => (xquo (r := (Int.tdiv rem (p.L i4 + p.kerf))))) ?_
    refine zdv 20 (fun _ => (xmin3 (r := (min (min (fw i4) (p.D i4)) (Int.tdiv rem (p.L i4 + p.kerf)))))) ?_
    refine zdv 21 (fun _ => xas) ?_
    refine zdd <| ztn <| zsq ?_
    refine zdst [0, 1, 2, 3, 4, 5, 6] [0, 1, 2, 3, 4, 5, 6] 1000 mx_ hS ?_; clear hS; intro w hS
    refine zdv 0 (fun _ => xmv) ?_
    refine zdv 1 (fun _ => xmv) ?_
    refine zdv 2 (fun _ => (xfb 0 fd_24_0)) ?_
    refine zdla 3 (fun w hS => (xlb 0 pl_22 hS)) ?_
    refine zdv 4 (fun _ => xmv) ?_
    refine zdv 5 (fun _ => (xix (kk := i4) sl_22 h.L.slh)) ?_
    refine zdla 6 (fun w hS => (xlr (u := .int .i64 (p.L i4)) pl_3 (h.L.below hS.below))) ?_
    have hbv := h.iL i4
    refine zdv 7 (fun _ => (xfb 3 fd_24_3)) ?_
    refine zdla 8 (fun w hS => (xlb 0 pl_3 hS)) ?_
    refine zdv 9 (fun _ => (xadd (r := p.L i4 + p.kerf))) ?_
    have hfr := fit_rng (x := (min (min (fw i4) (p.D i4)) (Int.tdiv rem (p.L i4 + p.kerf)))) (c := rem) (s := p.L i4 + p.kerf) (by omega) (by omega) (by omega) (by omega)
    have hxy := mul_rng (a := (min (min (fw i4) (p.D i4)) (Int.tdiv rem (p.L i4 + p.kerf)))) (b := scs1.Y i4) (A := 1000) (B := 1073741824) (by omega) (by omega) (by omega) (by omega)
    refine zdv 10 (fun _ => (xmul (r := ((min (min (fw i4) (p.D i4)) (Int.tdiv rem (p.L i4 + p.kerf))) * (p.L i4 + p.kerf))) (e := rfl))) ?_
    refine zdv 11 (fun _ => (xsub (r := rem - ((min (min (fw i4) (p.D i4)) (Int.tdiv rem (p.L i4 + p.kerf))) * (p.L i4 + p.kerf))))) ?_
    refine zdv 12 (fun _ => xas) ?_
    refine zdd <| ztn <| zrg ?_
    refine zs2 ?_
    refine zlv (xfb 1 fd_30_1) ?_
    refine zlv (xlb 6 pl_22 hS) ?_
    refine zlv xmv ?_
    refine zlv (xix (kk := i4) sl_22 hvYcs1) ?_
    refine zlv (xlr (u := .int .i64 (scs1.Y i4)) pl_3 (hS.rowN 4 rfl)) ?_
    refine zlv (xmul (r := ((min (min (fw i4) (p.D i4)) (Int.tdiv rem (p.L i4 + p.kerf))) * (scs1.Y i4))) (e := rfl)) ?_
    refine zlv (xadd (r := wo + ((min (min (fw i4) (p.D i4)) (Int.tdiv rem (p.L i4 + p.kerf))) * (scs1.Y i4)))) ?_
    refine zlv xas ?_
    refine zln <| zbn <| ztn <| zrg ?_
    refine zlv (xadd (r := i4 + 1)) ?_
    refine zlv xmv ?_
    refine zln <| zlq ⟨rem - ((min (min (fw i4) (p.D i4)) (Int.tdiv rem (p.L i4 + p.kerf))) * (p.L i4 + p.kerf)), wo + ((min (min (fw i4) (p.D i4)) (Int.tdiv rem (p.L i4 + p.kerf))) * (scs1.Y i4)), snoc fx i4 (min (min (fw i4) (p.D i4)) (Int.tdiv rem (p.L i4 + p.kerf))), i4 + 1, rfl, (by omega), (by omega), ?_, ?_, (by omega), ?_, (by omega), rfl, hS⟩
    ·
     intro k k0 k1; by_cases e : k < i4
     · rw [snoc_lt e]; exact hxb k k0 e
     · obtain rfl : k = i4 := by omega
       rw [snoc_at (by omega)]; omega
    ·
     rw [used_snoc h40]; omega
    ·
     rw [sum_snoc h40]; omega
   refine zsk <| ztn <| zsq ?_
   refine zdst [0, 1, 2, 3, 4, 5, 6] [0, 1, 2, 3, 4, 5, 6] 1000 mx_ hS ?_; clear hS; intro w hS
   refine zdv 0 (fun _ => xmv) ?_
   refine zdv 1 (fun _ => xmv) ?_
   refine zdv 2 (fun _ => (xfb 0 fd_24_0)) ?_
   refine zdla 3 (fun w hS => (xlb 0 pl_22 hS)) ?_
   refine zdv 4 (fun _ => xmv) ?_
   refine zdv 5 (fun _ => (xix (kk := i4) sl_22 h.L.slh)) ?_
   refine zdla 6 (fun w hS => (xlr (u := .int .i64 (p.L i4)) pl_3 (h.L.below hS.below))) ?_
   have hbv := h.iL i4
   refine zdv 7 (fun _ => (xfb 3 fd_24_3)) ?_
   refine zdla 8 (fun w hS => (xlb 0 pl_3 hS)) ?_
   refine zdv 9 (fun _ => (xadd (r := p.L i4 + p.kerf))) ?_
   have hfr := fit_rng (x := 0) (c := rem) (s := p.L i4 + p.kerf) (by omega) (by omega) (by omega) (by omega)
   have hxy := mul_rng (a := 0) (b := scs1.Y i4) (A := 1000) (B := 1073741824) (by omega) (by omega) (by omega) (by omega)
   refine zdv 10 (fun _ => (xmul (r := 0))) ?_
   refine zdv 11 (fun _ => (xsub (r := rem))) ?_
   refine zdv 12 (fun _ => xas) ?_
   refine zdd <| ztn <| zrg ?_
   refine zs2 ?_
   refine zlv (xfb 1 fd_30_1) ?_
   refine zlv (xlb 6 pl_22 hS) ?_
   refine zlv xmv ?_
   refine zlv (xix (kk := i4) sl_22 hvYcs1) ?_
   refine zlv (xlr (u := .int .i64 (scs1.Y i4)) pl_3 (hS.rowN 4 rfl)) ?_
   refine zlv (xmul (r := 0)) ?_
   refine zlv (xadd (r := wo)) ?_
   refine zlv xas ?_
   refine zln <| zbn <| ztn <| zrg ?_
   refine zlv (xadd (r := i4 + 1)) ?_
   refine zlv xmv ?_
   refine zln <| zlq ⟨rem, wo, snoc fx i4 0, i4 + 1, rfl, (by omega), (by omega), ?_, ?_, (by omega), ?_, (by omega), rfl, hS⟩
   ·
    intro k k0 k1; by_cases e : k < i4
    · rw [snoc_lt e]; exact hxb k k0 e
    · obtain rfl : k = i4 := by omega
      rw [snoc_at (by omega)]; omega
   ·
    rw [used_snoc h40]; omega
   ·
    rw [sum_snoc h40]; omega
  refine zxt <| ztx <| ztx <| zbh <| ztn <| zsr ?_
  refine zlv xmv ?_
  have e17 : wo ≤ scs1.den := by
    have h9 := wc_top hok (y := scs1.Y) (x := fx) (fun k k0 k1 => hxb k k0 (by omega)) (by rw [show i4 = p.m by omega] at hru; omega)
    rw [show i4 = p.m by omega] at hwo; omega
  refine zlv (xfb 2 fd_30_2) ?_
  refine zlv (xlb 6 pl_3 hS) ?_
  refine zs2 ?_
  refine zlb 224 ?_ ?_ <;> intro hc
  ·
   refine zlv xmv ?_
   refine zlv (xfb 2 fd_30_2) ?_
   refine zlv (xlb 6 pl_3 hS) ?_
   refine zs3 ?_
   refine zlb 230 ?_ ?_ <;> intro hc
   ·
    refine zlv xmv ?_
    refine zlv (xfb 3 fd_30_3) ?_
    refine zlv (xlb 6 pl_3 hS) ?_
    refine zs3 ?_
    refine zlt <| zrt <| zf1 ⟨_, rfl, ?_⟩
    exact ⟨(true_B (by first | omega | exact ⟨⟨e8, e9⟩, e17⟩)).symm, hS.nl⟩
   iterate 4 refine zlo ?_
   refine zs2 ?_
   refine zlt <| zrt <| zf1 ⟨_, rfl, ?_⟩
   exfalso
   first | omega | exact absurd (hmk.pats.2 i h0 (by omega)) ‹_›
  iterate 4 refine zlo ?_
  refine zs2 ?_
  iterate 4 refine zlo ?_
  refine zs2 ?_
  refine zlt <| zrt <| zf1 ⟨_, rfl, ?_⟩
  exfalso
  first | omega | exact absurd (hmk.pats.2 i h0 (by omega)) ‹_›

end Go.Proofs.Ytdlojjhknmmmlaa
