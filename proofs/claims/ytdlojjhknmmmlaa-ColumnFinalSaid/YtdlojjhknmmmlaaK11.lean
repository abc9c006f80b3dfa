/- The walk of ColumnGrows. -/
import Derived.Test.YtdlojjhknmmmlaaGv
import Derived.Test.YtdlojjhknmmmlaaK10
namespace Go.Proofs.Ytdlojjhknmmmlaa
open Go Go.RowKit Go.Proofs.Gw
set_option linter.unusedVariables false

theorem cl_14 : calledT Try.prog 14 = true := by kernel_rfl
theorem el_24 : elemT Try.prog 24 = some (.agg #[.slice none 0 0, .slice none 0 0, .int .i64 0, .int .i64 0], 4, 64) := by kernel_rfl
theorem so_5 : (Try.prog.underlying 5).isSome = true := by kernel_rfl
set_option maxRecDepth 20000 in
theorem c_grows {vX vY : Value} {s : So} {xX xY : Value} {u : So} (w0 : World) (hX : Row w0 vX 1 s.n (ints s.X)) (hY : Row w0 vY 1 s.m (ints s.Y)) (hX2 : Row w0 xX 1 u.n (ints u.X)) (hY2 : Row w0 xY 1 u.m (ints u.Y)) (hsv : 0 ≤ s.val ∧ s.val ≤ 1073741824) (hsd : 0 ≤ s.den ∧ s.den ≤ 1073741824) (huv : 0 ≤ u.val ∧ u.val ≤ 1073741824) (hud : 0 ≤ u.den ∧ u.den ≤ 1073741824) :
    Calls Try.prog 14 [.agg #[vX, vY, .int .i64 s.val, .int .i64 s.den], .agg #[xX, xY, .int .i64 u.val, .int .i64 u.den]].toArray w0 fun e w => ∃ v, e = .returned v ∧ v = B ((u.val * s.den ≤ (s.val + s.den) * u.den ∧ s.val * u.den ≤ u.val * s.den)) ∧ Sat w0 w [] := by
  have g1 := mul_abs (a := u.val) (b := s.den) (A := 1073741824) (B := 1073741824) (by omega) (by omega)
  have g2 := mul_abs (a := s.val + s.den) (b := u.den) (A := 2147483648) (B := 1073741824) (by omega) (by omega)
  have g3 := mul_abs (a := s.val) (b := u.den) (A := 1073741824) (B := 1073741824) (by omega) (by omega)
  refine zenG Try.func14 Try.ntmps14 fun w hS => ?_
  refine zsr ?_
  refine zla (xbx (cs := [_, _, _, _]) hS) ?_; rintro _ w ⟨g1, rfl, hS⟩
  replace hS := hS.n1
  refine zla (xbx (cs := [_, _, _, _]) hS) ?_; rintro _ w ⟨g2, rfl, hS⟩
  replace hS := hS.n2
  refine zlv xas ?_
  refine zlz ?_
  refine zlv (xfb 2 fd_30_2) ?_
  refine zlv (xlb 1 pl_3 hS) ?_
  refine zlv (xfb 3 fd_30_3) ?_
  refine zlv (xlb 0 pl_3 hS) ?_
  refine zlv (xmul (r := (u.val * s.den)) (e := rfl)) ?_
  refine zlv (xfb 2 fd_30_2) ?_
  refine zlv (xlb 0 pl_3 hS) ?_
  refine zlv (xfb 3 fd_30_3) ?_
  refine zlv (xlb 0 pl_3 hS) ?_
  refine zlv (xadd (r := s.val + s.den)) ?_
  refine zlv (xfb 3 fd_30_3) ?_
  refine zlv (xlb 1 pl_3 hS) ?_
  refine zlv (xmul (r := ((s.val + s.den) * u.den)) (e := rfl)) ?_
  refine zs2 ?_
  refine zlb 19 ?_ ?_ <;> intro hc
  ·
   refine zlv (xfb 2 fd_30_2) ?_
   refine zlv (xlb 1 pl_3 hS) ?_
   refine zlv (xfb 3 fd_30_3) ?_
   refine zlv (xlb 0 pl_3 hS) ?_
   refine zlv (xmul (r := (u.val * s.den)) (e := rfl)) ?_
   refine zlv (xfb 2 fd_30_2) ?_
   refine zlv (xlb 0 pl_3 hS) ?_
   refine zlv (xfb 3 fd_30_3) ?_
   refine zlv (xlb 1 pl_3 hS) ?_
   refine zlv (xmul (r := (s.val * u.den)) (e := rfl)) ?_
   refine zs3 ?_
   refine zlt <| zrt <| zf1 ⟨_, rfl, ?_⟩
   exact ⟨B_congr (by omega), hS.nl⟩
  iterate 11 refine zlo ?_
  refine zs2 ?_
  refine zlt <| zrt <| zf1 ⟨_, rfl, ?_⟩
  exact ⟨false_B (by omega), hS.nl⟩

theorem moreP_bd {p : Prob} {k : Int} (h : ∀ k, -9223372036854775808 ≤ p.D k ∧ p.D k ≤ 9223372036854775807) (hk : p.D k ≤ 1000) : ∀ j, -9223372036854775808 ≤ (moreP p k).D j ∧ (moreP p k).D j ≤ 9223372036854775807 := fun j => by
  rw [more_D]; have := h j; have := h k; split <;> omega

set_option maxHeartbeats 4000000 in
set_option maxRecDepth 20000 in
theorem law_cgrows {vL vD : Value} {p : Prob} {at_ : Int} (w0 : World) (h : PAt w0 vL vD p) (hat : 0 ≤ at_ ∧ at_ ≤ 255) :
    Calls Try.prog 4 [.agg #[vL, vD, .int .i64 p.stock, .int .i64 p.kerf], .int .u8 at_].toArray w0 fun e w => ∃ v, e = .returned v ∧ v = .bool true ∧ Sat w0 w [] := by
  have hm := h.L.slh.n0; have hm1 := h.L.slh.n1; have hd := h.D.slh.n0; have hd1 := h.D.slh.n1; have hs := h.is; have hk := h.ik
  refine zenG Try.func4 Try.ntmps4 fun w hS => ?_
  refine zsr ?_
  refine zla (xbx (cs := [_, _, _, _]) hS) ?_; rintro _ w ⟨g1, rfl, hS⟩
  replace hS := hS.n1
  refine zlv xas ?_
  refine zlt <| zsq <| zsr ?_
  refine zlc (xc0 cl_9) (c_awake31 w) ?_; rintro _ w ⟨rfl, hS'⟩
  replace hS := hS.cmp hS'; clear hS'
  refine zs2 ?_
  refine zlv (xls 0 st_24 hS) ?_
  refine zlc (xc0 cl_10) (c_few28 (p := p) w (h.below hS.below)) ?_; rintro _ w ⟨rfl, hS'⟩
  replace hS := hS.cmp hS'; clear hS'
  refine zs3 ?_
  refine zlb 18 ?_ ?_ <;> intro hc
  ·
   iterate 3 refine zlo ?_
   refine zlv xpt ?_
   refine zlt <| zct <| zsr ?_
   refine zlc (xc0 cl_9) (c_awake31 w) ?_; rintro _ w ⟨rfl, hS'⟩
   replace hS := hS.cmp hS'; clear hS'
   refine zlv xas ?_
   refine zlt <| zrt <| ztr <| zf1 ⟨_, rfl, ?_⟩
   exact ⟨rfl, hS.nl⟩
  refine zlv (xls 0 st_24 hS) ?_
  refine zlc (xc0 cl_11) (c_rvalid28 (p := p) w (h.below hS.below)) ?_; rintro _ w ⟨rfl, hS'⟩
  replace hS := hS.cmp hS'; clear hS'
  refine zs2 ?_
  refine zlt ?_
  refine zcif ?_ ?_ <;> intro hc
  ·
   refine zsr ?_
   refine zlc (xc0 cl_9) (c_awake31 w) ?_; rintro _ w ⟨rfl, hS'⟩
   replace hS := hS.cmp hS'; clear hS'
   refine zlv xas ?_
   refine zlt <| zrt <| ztr <| zf1 ⟨_, rfl, ?_⟩
   exact ⟨rfl, hS.nl⟩
  refine zsk <| ztn <| zsr ?_
  refine zlv xmv ?_
  refine zlv (xcv so_5 it_3) ?_
  have hok : p.Ok := by first | assumption | exact Classical.not_not.1 ‹¬ ¬ p.Ok›
  have hfew : Few28 p := by first | assumption | exact Classical.not_not.1 ‹¬ ¬ Few28 p›
  have hm1 := hok.m1; have hm2 := hok.m2; have hmd := hok.d
  have htr := Int.tmod_nonneg p.m hat.1; have htl := Int.tmod_lt_of_pos at_ (show 0 < p.m by omega)
  refine zlv (xfb 0 fd_24_0) ?_
  refine zlv (xlb 0 pl_22 hS) ?_
  refine zlv (xln sl_22 h.L.slh) ?_
  refine zlv (xrem (r := (Int.tmod at_ p.m))) ?_
  obtain ⟨k, hk⟩ : ∃ k, k = at_.tmod p.m := ⟨_, rfl⟩
  have k0 : 0 ≤ k := by omega
  have k1 : k < p.m := by omega
  refine zlas 29 (u := .int .i64 k) (by rw [hk]) ?_
  have hDk := dem_nn hok k0 k1
  refine zlv xas ?_
  refine zlz ?_
  refine zlv (xls 0 st_24 hS) ?_
  refine zla (xal (cs := [_, _, _, _]) el_24 hS) ?_; rintro _ w ⟨g2, rfl, hS⟩
  replace hS := hS.n2
  refine zle (xsw 1 st_24 hS (hd := (ones_cons h.L.slh.one (ones_cons h.D.slh.one (ones_cons rfl (ones_cons rfl ones_nil)))))) ?_; clear hS; rintro w hS
  replace hS := hS.n2
  refine zlz ?_
  refine zla (xl0 (c := ints p.D) sl_22 hS) ?_; rintro v1 w ⟨hS, hv1⟩
  replace hS := hS.n3
  refine zlv (xfb 1 fd_24_1) ?_
  refine zlv (xlb 0 pl_22 hS) ?_
  refine zla (xap 2 (r := p.d) (f := ints p.D) sl_22 el_3 hS (h.D.below hS.below) (by exact cat_self _ _)) ?_; rintro v2 w ⟨hS, hv2⟩
  replace hS := hS.n3
  refine zlv (xfb 1 fd_24_1) ?_
  refine zle (xsb 1 pl_22 hS (hv := hv2.one)) ?_; clear hS; rintro w hS
  replace hS := hS.n3
  refine zlz ?_
  refine zlv (xfb 1 fd_24_1) ?_
  refine zlv (xlb 1 pl_22 hS) ?_
  refine zlv xmv ?_
  refine zlv (xix (kk := k) sl_22 hv2) ?_
  refine zlv (xlr (u := .int .i64 (p.D k)) pl_3 (hS.rowN 2 rfl)) ?_
  refine zlv (xadd (r := p.D k + 1)) ?_
  refine zlv (xix (kk := k) sl_22 hv2) ?_
  refine zle (xso 2 pl_3 hS (upd_ints _ _ _)) ?_; clear hS; rintro w hS
  replace hS := hS.n3
  refine zlz ?_
  refine zlv (xls 0 st_24 hS) ?_
  replace hS := hS.recont 2 rfl (d := ints (moreP p k).D) (fun j j0 j1 => by first | rfl | (unfold ints; congr 1))
  replace hS := hS.n3
  refine zlc (xc0 cl_12) (c_csolve (p := p) w (h.below hS.below)) ?_; rintro _ w ⟨vPcs1, vvcs1, vXcs1, vYcs1, ucs1, mlcs1, mfcs1, scs1, ecs1, rfl, hcocs1, hvPcs1, hvXcs1, hvYcs1, hS'⟩
  replace hS : Sat w0 w [.blk g1 [vL, vD, .int .i64 p.stock, .int .i64 p.kerf], .blk g2 [vL, v2, .int .i64 p.stock, .int .i64 p.kerf], .own v2 1 3 p.d (ints (moreP p k).D), .own vPcs1 1 22 ucs1 vvcs1, .sem (Frame.rows 3 ucs1 vvcs1 mlcs1 mfcs1), .own vXcs1 1 3 scs1.n (ints scs1.X), .own vYcs1 1 3 scs1.m (ints scs1.Y)] := hS.comp hS'; clear hS'
  have hrwcs1 := fun k (k0 : 0 ≤ k) (k1 : k < ucs1) => hS.slhIn 4 rfl k0 k1
  refine zs3 ?_
  refine zla (xal (cs := [_, _, _, _, _]) el_32 hS) ?_; rintro _ w ⟨g3, rfl, hS⟩
  replace hS := hS.n8
  refine zle (xsw 7 st_32 hS (hd := (ones_cons hvPcs1.one (ones_cons hvXcs1.one (ones_cons hvYcs1.one (ones_cons rfl (ones_cons rfl ones_nil))))))) ?_; clear hS; rintro w hS
  replace hS := hS.n8
  refine zlv xas ?_
  refine zlz ?_
  refine zlv (xls 1 st_24 hS) ?_
  refine zlc (xc0 cl_12) (c_csolve (p := moreP p k) w (⟨(h.L.below hS.below), (hS.rowN 2 rfl), h.iL, moreP_bd h.iD (by omega), h.is, h.ik⟩ : PAt _ _ _ (moreP p k))) ?_; rintro _ w ⟨vPcs2, vvcs2, vXcs2, vYcs2, ucs2, mlcs2, mfcs2, scs2, ecs2, rfl, hcocs2, hvPcs2, hvXcs2, hvYcs2, hS'⟩
  replace hS : Sat w0 w [.blk g1 [vL, vD, .int .i64 p.stock, .int .i64 p.kerf], .blk g2 [vL, v2, .int .i64 p.stock, .int .i64 p.kerf], .own v2 1 3 p.d (ints (moreP p k).D), .own vPcs1 1 22 ucs1 vvcs1, .sem (Frame.rows 3 ucs1 vvcs1 mlcs1 mfcs1), .own vXcs1 1 3 scs1.n (ints scs1.X), .own vYcs1 1 3 scs1.m (ints scs1.Y), .blk g3 [vPcs1, vXcs1, vYcs1, .int .i64 scs1.val, .int .i64 scs1.den], .own vPcs2 1 22 ucs2 vvcs2, .sem (Frame.rows 3 ucs2 vvcs2 mlcs2 mfcs2), .own vXcs2 1 3 scs2.n (ints scs2.X), .own vYcs2 1 3 scs2.m (ints scs2.Y)] := hS.comp hS'; clear hS'
  have hrwcs2 := fun k (k0 : 0 ≤ k) (k1 : k < ucs2) => hS.slhIn 9 rfl k0 k1
  refine zs3 ?_
  refine zla (xal (cs := [_, _, _, _, _]) el_32 hS) ?_; rintro _ w ⟨g4, rfl, hS⟩
  replace hS := hS.n13
  refine zle (xsw 12 st_32 hS (hd := (ones_cons hvPcs2.one (ones_cons hvXcs2.one (ones_cons hvYcs2.one (ones_cons rfl (ones_cons rfl ones_nil))))))) ?_; clear hS; rintro w hS
  replace hS := hS.n13
  refine zlv xas ?_
  refine zlt <| zsq <| zsr ?_
  refine zs3 ?_
  refine zlb 55 ?_ ?_ <;> intro hc
  ·
   iterate 2 refine zlo ?_
   refine zs2 ?_
   iterate 6 refine zlo ?_
   refine zlv xpt ?_
   refine zlt <| zct <| zsr ?_
   refine zlv xas ?_
   refine zlt <| zrt <| ztr <| zf1 ⟨_, rfl, ?_⟩
   exact ⟨rfl, hS.nl⟩
  refine zs4 ?_
  refine zlb 59 ?_ ?_ <;> intro hc
  ·
   iterate 6 refine zlo ?_
   refine zlv xpt ?_
   refine zlt <| zct <| zsr ?_
   refine zlv xas ?_
   refine zlt <| zrt <| ztr <| zf1 ⟨_, rfl, ?_⟩
   exact ⟨rfl, hS.nl⟩
  refine zlv (xfb 1 fd_24_1) ?_
  refine zlv (xlb 1 pl_22 hS) ?_
  refine zlv xmv ?_
  refine zlv (xix (kk := k) sl_22 hv2) ?_
  refine zlv (xlr (u := .int .i64 ((moreP p k).D k)) pl_3 (hS.rowN 2 rfl)) ?_
  refine zs2 ?_
  refine zlt ?_
  refine zcif ?_ ?_ <;> intro hc
  ·
   refine zsr ?_
   refine zlv xas ?_
   refine zlt <| zrt <| ztr <| zf1 ⟨_, rfl, ?_⟩
   exact ⟨rfl, hS.nl⟩
  refine zsk <| ztn <| zsr ?_
  refine zlv (xfb 1 fd_32_1) ?_
  refine zlv (xfb 4 fd_30_3) ?_
  refine zlv (xlb 7 pl_3 hS) ?_
  obtain ⟨hmk, hwc⟩ := hcocs1.okS hvPcs1.n0 (by omega)
  obtain ⟨hmk2, hwc2⟩ := hcocs2.okS hvPcs2.n0 (by omega)
  have hd1 := hmk.d1; have hd2 := hmk.d2; have hv := hmk.v; have hd3 := hmk2.d1; have hd4 := hmk2.d2; have hv2 := hmk2.v
  have hlo := more_low k0 k1 hmk hwc hmk2; have hhi := more_high k0 k1 hmk hmk2 hwc2
  refine zs2 ?_
  refine zlb 71 ?_ ?_ <;> intro hc
  ·
   refine zlv (xfb 1 fd_32_1) ?_
   refine zlv (xfb 4 fd_30_3) ?_
   refine zlv (xlb 12 pl_3 hS) ?_
   refine zs3 ?_
   refine zlb 77 ?_ ?_ <;> intro hc
   ·
    refine zlv (xfb 1 fd_32_1) ?_
    refine zlv (xlp 7 (ds := [vXcs1, vYcs1, .int .i64 scs1.val, .int .i64 scs1.den]) st_30 hS) ?_
    refine zlv (xfb 1 fd_32_1) ?_
    refine zlv (xlp 12 (ds := [vXcs2, vYcs2, .int .i64 scs2.val, .int .i64 scs2.den]) st_30 hS) ?_
    refine zlc (xc0 cl_14) (c_grows (s := scs1) (u := scs2) w (hS.rowN 5 rfl) (hS.rowN 6 rfl) (hS.rowN 10 rfl) (hS.rowN 11 rfl) (by omega) (by omega) (by omega) (by omega)) ?_; rintro _ w ⟨rfl, hS'⟩
    replace hS := hS.cmp hS'; clear hS'
    refine zs2 ?_
    refine zlt <| zrt <| zf1 ⟨_, rfl, ?_⟩
    exact ⟨(true_B ⟨hhi, hlo⟩).symm, hS.nl⟩
   iterate 5 refine zlo ?_
   refine zs2 ?_
   refine zlt <| zrt <| zf1 ⟨_, rfl, ?_⟩
   exfalso
   omega
  iterate 4 refine zlo ?_
  refine zs2 ?_
  iterate 5 refine zlo ?_
  refine zs2 ?_
  refine zlt <| zrt <| zf1 ⟨_, rfl, ?_⟩
  exfalso
  omega

end Go.Proofs.Ytdlojjhknmmmlaa
