/- The walk of MasterStart. -/
import Derived.Test.YtdlojjhknmmmlaaGv
import Derived.Test.YtdlojjhknmmmlaaK19
namespace Go.Proofs.Ytdlojjhknmmmlaa
open Go Go.RowKit Go.Proofs.Gw
set_option linter.unusedVariables false

theorem cl_23 : calledT Try.prog 23 = true := by kernel_rfl
set_option maxHeartbeats 4000000 in
set_option maxRecDepth 20000 in
theorem law_mstart {vL vD : Value} {p : Prob} (w0 : World) (h : PAt w0 vL vD p) :
    Calls Try.prog 7 [.agg #[vL, vD, .int .i64 p.stock, .int .i64 p.kerf]].toArray w0 fun e w => ∃ v, e = .returned v ∧ v = .bool true ∧ Sat w0 w [] := by
  have hm := h.L.slh.n0; have hm1 := h.L.slh.n1; have hd := h.D.slh.n0; have hd1 := h.D.slh.n1; have hs := h.is; have hk := h.ik
  refine zenG Try.func7 Try.ntmps7 fun w hS => ?_
  refine zsr ?_
  refine zla (xbx (cs := [_, _, _, _]) hS) ?_; rintro _ w ⟨g1, rfl, hS⟩
  replace hS := hS.n1
  refine zlv xas ?_
  refine zlt <| zsq <| zsr ?_
  refine zlc (xc0 cl_23) (c_awake30 w) ?_; rintro _ w ⟨rfl, hS'⟩
  replace hS := hS.cmp hS'; clear hS'
  refine zs2 ?_
  refine zlv (xls 0 st_24 hS) ?_
  refine zlc (xc0 cl_10) (c_few28 (p := p) w (h.below hS.below)) ?_; rintro _ w ⟨rfl, hS'⟩
  replace hS := hS.cmp hS'; clear hS'
  refine zs3 ?_
  refine zlb 22 ?_ ?_ <;> intro hc
  ·
   iterate 3 refine zlo ?_
   refine zlv xpt ?_
   refine zlt <| zct <| zsr ?_
   refine zlc (xc0 cl_23) (c_awake30 w) ?_; rintro _ w ⟨rfl, hS'⟩
   replace hS := hS.cmp hS'; clear hS'
   refine zlv xas ?_
   refine zlt <| zrt <| ztr <| zf1 ⟨_, rfl, ?_⟩
   exact ⟨rfl, hS.nl⟩
  refine zlv (xls 0 st_24 hS) ?_
  refine zlc (xc0 cl_11) (c_rvalid28 (p := p) w (h.below hS.below)) ?_; rintro _ w ⟨rfl, hS'⟩
  replace hS := hS.cmp hS'; clear hS'
  refine zs2 ?_
  refine zlt ?_
  refine zcif ?_ ?_ <;> intro hc
  ·
   refine zsr ?_
   refine zlc (xc0 cl_23) (c_awake30 w) ?_; rintro _ w ⟨rfl, hS'⟩
   replace hS := hS.cmp hS'; clear hS'
   refine zlv xas ?_
   refine zlt <| zrt <| ztr <| zf1 ⟨_, rfl, ?_⟩
   exact ⟨rfl, hS.nl⟩
  refine zsk <| ztn <| zsr ?_
  refine zlv (xls 0 st_24 hS) ?_
  have hok : p.Ok := by first | assumption | exact Classical.not_not.1 ‹¬ ¬ p.Ok›
  have hfew : Few28 p := by first | assumption | exact Classical.not_not.1 ‹¬ ¬ Few28 p›
  have hm1 := hok.m1; have hm2 := hok.m2; have hmd := hok.d
  refine zlc (xc0 cl_24) (c_mstart (p := p) w (h.below hS.below)) ?_; rintro _ w ⟨srm91, snm91, svm91, slm91, sgm91, em91, rfl, hmsm91, hsrm91, hS'⟩
  replace hS : Sat w0 w [.blk g1 [vL, vD, .int .i64 p.stock, .int .i64 p.kerf], .own srm91 1 22 snm91 svm91, .sem (Frame.rows 3 snm91 svm91 slm91 sgm91)] := hS.comp hS'; clear hS'
  have hswm91 := fun k (k0 : 0 ≤ k) (k1 : k < snm91) => hS.slhIn 2 rfl k0 k1
  refine zs5 ?_
  refine zlz ?_
  refine zlv (xls 0 st_24 hS) ?_
  obtain ⟨mse, ms1, ms2, ms3, msp⟩ := start_ok hok hmsm91
  refine zlv xmv ?_
  refine zlc (xc0 cl_25) (c_msolve (p := p) (u := snm91) (ml := slm91) (mf := sgm91) w (h.below hS.below) (⟨(hS.rowN 1 rfl), fun k k0 k1 => hS.rowIn 2 rfl k0 k1, fun k k0 k1 => hS.roomIn 2 rfl k0 k1⟩ : MAt _ srm91 snm91 svm91 slm91 sgm91)) ?_; rintro _ w ⟨vXm81, vYm81, sm81, em81, rfl, hmom81, hvXm81, hvYm81, hS'⟩
  replace hS : Sat w0 w [.blk g1 [vL, vD, .int .i64 p.stock, .int .i64 p.kerf], .own srm91 1 22 snm91 svm91, .sem (Frame.rows 3 snm91 svm91 slm91 sgm91), .own vXm81 1 3 sm81.n (ints sm81.X), .own vYm81 1 3 sm81.m (ints sm81.Y)] := hS.comp hS'; clear hS'
  refine zs3 ?_
  refine zla (xal (cs := [_, _, _, _]) el_30 hS) ?_; rintro _ w ⟨g2, rfl, hS⟩
  replace hS := hS.n6
  refine zle (xsw 5 st_30 hS (hd := (ones_cons hvXm81.one (ones_cons hvYm81.one (ones_cons rfl (ones_cons rfl ones_nil)))))) ?_; clear hS; rintro w hS
  replace hS := hS.n6
  refine zlv xas ?_
  refine zlt <| zsq <| zsr ?_
  refine zs3 ?_
  refine zlb 41 ?_ ?_ <;> intro hc
  ·
   iterate 2 refine zlo ?_
   refine zlv xpt ?_
   refine zlt <| zct <| zsr ?_
   refine zs3 ?_
   refine zlt <| zrt <| ztr <| zf1 ⟨_, rfl, ?_⟩
   exact ⟨(true_B (by first | omega | exact ⟨v5, v6⟩)).symm, hS.nl⟩
  refine zlv xmv ?_
  have hfm := hfew.2.2 hok
  have h8 := hmom81; have msq := msp
  rw [ms1, ms2, ms3] at h8 msq
  have mer := start_errs hok (by omega) h8 msq
  refine zs2 ?_
  refine zlt ?_
  refine zcif ?_ ?_ <;> intro hc
  ·
   refine zsr ?_
   refine zs3 ?_
   refine zlt <| zrt <| ztr <| zf1 ⟨_, rfl, ?_⟩
   exact ⟨(true_B (by first | omega | exact ⟨v5, v6⟩)).symm, hS.nl⟩
  refine zsk <| ztn <| zsr ?_
  refine zs2 ?_
  refine zlt <| zsq <| zsr ?_
  refine zlv (xfb 0 fd_24_0) ?_
  have hmo0 : MSolveR p (stN p p.m.toNat) (stL p p.m.toNat) (stG p p.m.toNat) sm81 0 := (show em81 = 0 by omega) ▸ h8
  have hmk := hmo0.ok (stN_rng p _).1
  obtain ⟨v1, v2, v3⟩ := start_val hok hmk
  have hd1 := hmk.d1; have hd2 := hmk.d2; have hv := hmk.v
  have hs1 := hok.s1; have hs2 := hok.s2; have hk1 := hok.k1; have hk2 := hok.k2
  have hsn := stN_rng p p.m.toNat
  have hsn8 := hmk.n
  refine zlv (xlb 0 pl_22 hS) ?_
  refine zlv (xln sl_22 h.L.slh) ?_
  refine zlv xmv ?_
  refine zlt <| zbk <| zlp (fun mm M w => ∃ (num : Int) (dn : Int) (i : Int), mm = ((p.m - i).toNat) ∧ (0 ≤ i) ∧ (i ≤ p.m) ∧ (num = (rN p i.toNat).1) ∧ (dn = (rN p i.toNat).2) ∧ M = [(1, .pointer (some ⟨g1, 0, none⟩)), (2, .bool false), (3, srm91), (5, .pointer (some ⟨g2, 0, none⟩)), (7, .int .i64 num), (8, .int .i64 dn), (49, .int .i64 p.m), (50, .int .i64 i)] ∧ Sat w0 w [.blk g1 [vL, vD, .int .i64 p.stock, .int .i64 p.kerf], .own srm91 1 22 snm91 svm91, .sem (Frame.rows 3 snm91 svm91 slm91 sgm91), .own vXm81 1 3 sm81.n (ints sm81.X), .own vYm81 1 3 sm81.m (ints sm81.Y), .blk g2 [vXm81, vYm81, .int .i64 sm81.val, .int .i64 sm81.den]]) ⟨0, 1, 0, rfl, (by omega), (by omega), ?_, ?_, rfl, hS⟩ ?_
  ·
   rfl
  ·
   rfl
  clear hS w
  rintro mm M w ⟨num, dn, i, rfl, h0, h1, hnum, hden, rfl, hS⟩
  refine zsr ?_
  refine zlv xlss ?_
  refine zlt <| zsq ?_
  refine zcif ?_ ?_ <;> intro hc
  ·
   refine zsk <| ztn <| zsq <| zbk <| zsr ?_
   refine zs2 ?_
   refine zlt <| zsq <| zsr ?_
   refine zlv (xfb 1 fd_24_1) ?_
   refine zlv (xlb 0 pl_22 hS) ?_
   refine zlv xmv ?_
   refine zlv (xix (kk := i) sl_22 h.D.slh) ?_
   refine zlv (xlr (u := .int .i64 (p.D i)) pl_3 (h.D.below hS.below)) ?_
   have hbv := h.iD i
   have hdm := dem_nn hok h0 (by omega : i < p.m)
   have hD30 := hfm.1 i h0 (by omega)
   have hsm := rN_small hfew hok h0 (by omega)
   have hqd := tdiv_abs (a := p.stock + p.kerf) (d := p.L i + p.kerf) (A := 2100) (by omega) (by omega)
   have hq0 := Int.tdiv_nonneg (a := p.stock + p.kerf) (b := p.L i + p.kerf) (by omega) (by omega)
   refine zlv xeql ?_
   refine zlt ?_
   refine zcif ?_ ?_ <;> intro hc
   ·
    refine zxt <| ztx <| zbh <| ztn <| zrg ?_
    refine zlv (xadd (r := i + 1)) ?_
    refine zlv xmv ?_
    refine zln <| zlq ⟨num, dn, i + 1, rfl, (by omega), (by omega), ?_, ?_, rfl, hS⟩
    ·
     rw [rN_next p h0]; first | (rw [if_pos ‹p.D i = 0›]; exact hnum) | (rw [if_neg ‹¬ p.D i = 0›]; show _ = (rN p i.toNat).1 * nP p i + p.D i * (rN p i.toNat).2; unfold nP; first | rw [← hnum, ← hden] | rw [← hden])
    ·
     rw [rN_next p h0]; first | (rw [if_pos ‹p.D i = 0›]; exact hden) | (rw [if_neg ‹¬ p.D i = 0›]; show _ = (rN p i.toNat).2 * nP p i; unfold nP; first | rw [← hnum, ← hden] | rw [← hden])
   refine zsk <| ztn <| zsq ?_
   refine zdst [0, 1, 2, 3, 4, 5] [0, 1, 2, 3, 4, 5] 1000 mx_ hS ?_; clear hS; intro w hS
   refine zdv 0 (fun _ => (xfb 1 fd_24_1)) ?_
   refine zdla 1 (fun w hS => (xlb 0 pl_22 hS)) ?_
   refine zdv 2 (fun _ => xmv) ?_
   refine zdv 3 (fun _ => (xix (kk := i) sl_22 h.D.slh)) ?_
   refine zdla 4 (fun w hS => (xlr (u := .int .i64 (p.D i)) pl_3 (h.D.below hS.below))) ?_
   have hbv := h.iD i
   refine zdv 5 (fun _ => (xfb 2 fd_24_2)) ?_
   refine zdla 6 (fun w hS => (xlb 0 pl_3 hS)) ?_
   refine zdv 7 (fun _ => (xfb 3 fd_24_3)) ?_
   refine zdla 8 (fun w hS => (xlb 0 pl_3 hS)) ?_
   refine zdv 9 (fun _ => (xadd (r := p.stock + p.kerf))) ?_
   refine zdv 10 (fun _ => (xfb 0 fd_24_0)) ?_
   refine zdla 11 (fun w hS => (xlb 0 pl_22 hS)) ?_
   refine zdv 12 (fun _ => xmv) ?_
   refine zdv 13 (fun _ => (xix (kk := i) sl_22 h.L.slh)) ?_
   refine zdla 14 (fun w hS => (xlr (u := .int .i64 (p.L i)) pl_3 (h.L.below hS.below))) ?_
   have hbv := h.iL i
   refine zdv 15 (fun _ => (xfb 3 fd_24_3)) ?_
   refine zdla 16 (fun w hS => (xlb 0 pl_3 hS)) ?_
   refine zdv 17 (fun _ => (xadd (r := p.L i + p.kerf))) ?_
   refine zdv 18 (fun _ => (xquo (r := (Int.tdiv (p.stock + p.kerf) (p.L i + p.kerf))))) ?_
   refine zdv 19 (fun _ => (xmin (r := (min (p.D i) (Int.tdiv (p.stock + p.kerf) (p.L i + p.kerf)))))) ?_
   have a1 := mul_rng (a := num) (b := (min (p.D i) ((p.stock + p.kerf).tdiv (p.L i + p.kerf)))) (A := 4374000000) (B := 30) (by omega) (by omega) (by omega) (by omega)
   have a2 := mul_rng (a := p.D i) (b := dn) (A := 30) (B := 729000000) (by omega) (by omega) (by omega) (by omega)
   have a3 := mul_rng (a := dn) (b := (min (p.D i) ((p.stock + p.kerf).tdiv (p.L i + p.kerf)))) (A := 729000000) (B := 30) (by omega) (by omega) (by omega) (by omega)
   refine zdv 20 (fun _ => xas) ?_
   refine zdd <| ztn <| zrg ?_
   refine zs2 ?_
   refine zlv (xmul (r := (num * (min (p.D i) (Int.tdiv (p.stock + p.kerf) (p.L i + p.kerf))))) (e := rfl)) ?_
   refine zlv (xfb 1 fd_24_1) ?_
   refine zlv (xlb 0 pl_22 hS) ?_
   refine zlv xmv ?_
   refine zlv (xix (kk := i) sl_22 h.D.slh) ?_
   refine zlv (xlr (u := .int .i64 (p.D i)) pl_3 (h.D.below hS.below)) ?_
   have hbv := h.iD i
   refine zlv xmv ?_
   refine zlv (xmul (r := ((p.D i) * dn)) (e := rfl)) ?_
   refine zlv (xadd (r := (num * (min (p.D i) (Int.tdiv (p.stock + p.kerf) (p.L i + p.kerf)))) + ((p.D i) * dn))) ?_
   refine zs2 ?_
   refine zlv (xmul (r := (dn * (min (p.D i) (Int.tdiv (p.stock + p.kerf) (p.L i + p.kerf))))) (e := rfl)) ?_
   refine zs2 ?_
   refine zln <| zbn <| ztn <| zrg ?_
   refine zlv (xadd (r := i + 1)) ?_
   refine zlv xmv ?_
   refine zln <| zlq ⟨(num * (min (p.D i) (Int.tdiv (p.stock + p.kerf) (p.L i + p.kerf)))) + ((p.D i) * dn), (dn * (min (p.D i) (Int.tdiv (p.stock + p.kerf) (p.L i + p.kerf)))), i + 1, rfl, (by omega), (by omega), ?_, ?_, rfl, hS⟩
   ·
    rw [rN_next p h0]; first | (rw [if_pos ‹p.D i = 0›]; exact hnum) | (rw [if_neg ‹¬ p.D i = 0›]; show _ = (rN p i.toNat).1 * nP p i + p.D i * (rN p i.toNat).2; unfold nP; first | rw [← hnum, ← hden] | rw [← hden])
   ·
    rw [rN_next p h0]; first | (rw [if_pos ‹p.D i = 0›]; exact hden) | (rw [if_neg ‹¬ p.D i = 0›]; show _ = (rN p i.toNat).2 * nP p i; unfold nP; first | rw [← hnum, ← hden] | rw [← hden])
  refine zxt <| ztx <| ztx <| zbh <| ztn <| zsr ?_
  refine zlv (xls 5 st_30 hS) ?_
  refine zlc (xc0 cl_26) (c_value30 (s := sm81) w (hS.rowN 3 rfl) (hS.rowN 4 rfl) (by omega)) ?_; rintro _ w ⟨xv91, yv91, ev91, rfl, hvav91, hS'⟩
  replace hS := hS.cmp hS'; clear hS'
  refine zs3 ?_
  obtain ⟨_, v7, v8, v9⟩ := hvav91.resolve_left (fun hh => hh.1 hmk.snd)
  have him : i = p.m := by omega
  rw [him] at hnum hden
  have hsm := rN_small hfew hok (i := p.m) (by omega) (Int.le_refl _)
  have hnn : 0 ≤ num ∧ 1 ≤ dn := by omega
  obtain ⟨v5, v6⟩ : xv91 = num.tdiv (Int.gcd num dn) ∧ yv91 = dn.tdiv (Int.gcd num dn) := by rw [v7, v8]; exact rat_same hv.1 hd1 hnn.1 hnn.2 (by rw [hnum, hden]; exact v1.symm)
  refine zla (xal (cs := [_, _]) el_45 hS) ?_; rintro _ w ⟨g3, rfl, hS⟩
  replace hS := hS.n7
  refine zle (xsw 6 st_45 hS) ?_; clear hS; rintro w hS
  replace hS := hS.n7
  refine zlv xas ?_
  refine zlt <| zsq <| zsr ?_
  refine zlv xmv ?_
  refine zlv (xln sl_28 hsrm91) ?_
  refine zlv xmv ?_
  refine zlt <| zbk <| zlp (fun mm M w => ∃ (i2 : Int), mm = ((snm91 - i2).toNat) ∧ (0 ≤ i2) ∧ (i2 ≤ snm91) ∧ M = [(1, .pointer (some ⟨g1, 0, none⟩)), (7, .int .i64 num), (8, .int .i64 dn), (11, .pointer (some ⟨g3, 0, none⟩)), (12, .int .i64 ev91), (99, srm91), (100, .int .i64 snm91), (101, .int .i64 i2)] ∧ Sat w0 w [.blk g1 [vL, vD, .int .i64 p.stock, .int .i64 p.kerf], .own srm91 1 22 snm91 svm91, .sem (Frame.rows 3 snm91 svm91 slm91 sgm91), .own vXm81 1 3 sm81.n (ints sm81.X), .own vYm81 1 3 sm81.m (ints sm81.Y), .blk g2 [vXm81, vYm81, .int .i64 sm81.val, .int .i64 sm81.den], .blk g3 [.int .i64 xv91, .int .i64 yv91]]) ⟨0, rfl, (by omega), (by omega), rfl, hS⟩ ?_
  clear hS w
  rintro mm M w ⟨i2, rfl, h20, h21, rfl, hS⟩
  refine zsr ?_
  refine zlv xlss ?_
  refine zlt <| zsq ?_
  refine zcif ?_ ?_ <;> intro hc
  ·
   refine zsk <| ztn <| zsq <| zbk <| zsr ?_
   refine zlv (xix (kk := i2) sl_28 hsrm91) ?_
   refine zlv (xlr (u := (svm91 i2)) pl_22 (hS.rowN 1 rfl)) ?_
   refine zlv xas ?_
   refine zlz ?_
   refine zlv (xls 0 st_24 hS) ?_
   refine zlv xmv ?_
   refine zlc (xc0 cl_13) (c_rproper28 (p := p) w (h.below hS.below) (hS.rowIn (k := i2) 2 rfl (by omega) (by omega))) ?_; rintro _ w ⟨rfl, hS'⟩
   replace hS := hS.cmp hS'; clear hS'
   refine zlv xnot ?_
   refine zlt ?_
   refine zcif ?_ ?_ <;> intro hc
   ·
    refine zsr ?_
    refine zlv xas ?_
    refine zlt <| zrt <| zbr <| ztr <| ztr <| zbr <| ztr <| zf1 ⟨_, rfl, ?_⟩
    exfalso
    first | omega | exact absurd (msp.2 i2 h20 (by omega)) ‹_›
   refine zsk <| zbn <| ztn <| zrg ?_
   refine zlv (xadd (r := i2 + 1)) ?_
   refine zlv xmv ?_
   refine zln <| zlq ⟨i2 + 1, rfl, (by omega), (by omega), rfl, hS⟩
  refine zxt <| ztx <| ztx <| zbh <| ztn <| zsq ?_
  refine zdst [0, 1, 2, 3, 4, 5, 6] [0, 1, 2, 3, 4, 5, 6] 1000 mx_ hS ?_; clear hS; intro w hS
  refine zdv 0 (fun _ => xmv) ?_
  refine zdv 1 (fun _ => xeql) ?_
  refine zdv 2 (fun _ => xmv) ?_
  refine zdb 112 ?_ ?_ <;> intro hc
  ·
   refine zdla 3 (fun w hS => (xls 6 st_45 hS)) ?_
   refine zdv 4 (fun _ => xmv) ?_
   refine zdv 5 (fun _ => xmv) ?_
   refine zdc 6 (xc0 cl_27) (c_lowest (x := num) (y := dn) w (by omega) (by omega)) ?_; rintro _ w ⟨rfl, hS'⟩
   replace hS := hS.cmp hS'; clear hS'
   refine ⟨⟨fun _ => hS, hS⟩, ?_⟩
   refine zdv 7 (fun _ => xeqr) ?_
   refine zdv 8 (fun _ => xpt) ?_
   refine zdv 9 (fun _ => xas) ?_
   refine zdd <| ztn <| zrt <| zf1 ⟨_, rfl, ?_⟩
   exact ⟨(true_B (by first | omega | exact ⟨v5, v6⟩)).symm, hS.nl⟩
  refine zdof 3 ?_
  refine zdof 4 ?_
  refine zdof 5 ?_
  refine zdof 6 ?_
  refine zdof 7 ?_
  refine zdv 8 (fun _ => xpf) ?_
  refine zdv 9 (fun _ => xas) ?_
  refine zdd <| ztn <| zrt <| zf1 ⟨_, rfl, ?_⟩
  exfalso
  first | omega | exact absurd (msp.2 i2 h20 (by omega)) ‹_›

end Go.Proofs.Ytdlojjhknmmmlaa
