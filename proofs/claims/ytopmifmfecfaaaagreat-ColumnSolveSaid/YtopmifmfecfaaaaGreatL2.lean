/- The walk of ColumnSolve. -/
import Derived.Test.YtopmifmfecfaaaaGreatGv
import Derived.Test.YtopmifmfecfaaaaGreatL1
namespace Go.Proofs.YtopmifmfecfaaaaGreat
open Go Go.RowKit Go.Proofs.Gw
set_option linter.unusedVariables false

theorem cl_10 : calledT Tryz.prog 10 = true := by kernel_rfl
theorem cl_12 : calledT Tryz.prog 12 = true := by kernel_rfl
theorem cl_13 : calledT Tryz.prog 13 = true := by kernel_rfl
theorem cl_14 : calledT Tryz.prog 14 = true := by kernel_rfl
theorem cl_9 : calledT Tryz.prog 9 = true := by kernel_rfl
theorem fd_31_0 : fieldT Tryz.prog 31 0 = some 0 := by kernel_rfl
theorem fd_38_0 : fieldT Tryz.prog 38 0 = some 0 := by kernel_rfl
theorem fd_38_1 : fieldT Tryz.prog 38 1 = some 1 := by kernel_rfl
set_option maxHeartbeats 4000000 in
set_option maxRecDepth 20000 in
theorem law_csolve {vL vD : Value} {p : Prob} (w0 : World) (h : PAt w0 vL vD p) :
    Calls Tryz.prog 3 [.agg #[vL, vD, .int .i64 p.stock, .int .i64 p.kerf]].toArray w0 fun e w => ∃ v, e = .returned v ∧ v = .bool true ∧ Sat w0 w [] := by
  have hm := h.L.slh.n0; have hm1 := h.L.slh.n1; have hd := h.D.slh.n0; have hd1 := h.D.slh.n1; have hs := h.is; have hk := h.ik
  refine zenG Tryz.func3 Tryz.ntmps3 fun w hS => ?_
  refine zsr ?_
  refine zla (xbx (cs := [_, _, _, _]) hS) ?_; rintro _ w ⟨g1, rfl, hS⟩
  replace hS := hS.n1
  refine zlv xas ?_
  refine zlt <| zsq <| zsr ?_
  refine zlc (xc0 cl_9) (c_awake31 w) ?_; rintro _ w ⟨rfl, hS'⟩
  replace hS := hS.cmp hS'; clear hS'
  refine zs2 ?_
  refine zlv (xls 0 st_24 hS) ?_
  refine zlc (xc0 cl_10) (c_few28 (p := p) w (h.below hS.below)) ?_; rintro _ w ⟨rfl, hS'⟩
  replace hS := hS.cmp hS'; clear hS'
  refine zs2 ?_
  refine zlt ?_
  refine zcif ?_ ?_ <;> intro hc
  ·
   refine zsr ?_
   refine zlc (xc0 cl_9) (c_awake31 w) ?_; rintro _ w ⟨rfl, hS'⟩
   replace hS := hS.cmp hS'; clear hS'
   refine zlv xas ?_
   refine zlt <| zrt <| ztr <| zf1 ⟨_, rfl, ?_⟩
   exact ⟨rfl, hS.nl⟩
  refine zsk <| ztn <| zsr ?_
  refine zlv (xls 0 st_24 hS) ?_
  refine zlc (xc0 cl_11) (c_csolve (p := p) w (h.below hS.below)) ?_; rintro _ w ⟨vPcs1, vvcs1, vXcs1, vYcs1, ucs1, mlcs1, mfcs1, scs1, ecs1, rfl, hcocs1, hvPcs1, hvXcs1, hvYcs1, hS'⟩
  replace hS : Sat w0 w [.blk g1 [vL, vD, .int .i64 p.stock, .int .i64 p.kerf], .own vPcs1 1 22 ucs1 vvcs1, .sem (Frame.rows 3 ucs1 vvcs1 mlcs1 mfcs1), .own vXcs1 1 3 scs1.n (ints scs1.X), .own vYcs1 1 3 scs1.m (ints scs1.Y)] := hS.comp hS'; clear hS'
  have hrwcs1 := fun k (k0 : 0 ≤ k) (k1 : k < ucs1) => hS.slhIn 2 rfl k0 k1
  refine zs3 ?_
  refine zla (xal (cs := [_, _, _, _, _]) el_31 hS) ?_; rintro _ w ⟨g2, rfl, hS⟩
  replace hS := hS.n6
  refine zle (xsw 5 st_31 hS (hd := (ones_cons hvPcs1.one (ones_cons hvXcs1.one (ones_cons hvYcs1.one (ones_cons rfl (ones_cons rfl ones_nil))))))) ?_; clear hS; rintro w hS
  replace hS := hS.n6
  refine zlv xas ?_
  refine zlz ?_
  refine zlv (xls 0 st_24 hS) ?_
  refine zlc (xc0 cl_12) (c_rcsolve (p := p) w (h.below hS.below)) ?_; rintro _ w ⟨vPcs2, vvcs2, vXcs2, vYcs2, ucs2, mlcs2, mfcs2, scs2, ecs2, rfl, hcocs2, hvPcs2, hvXcs2, hvYcs2, hS'⟩
  replace hS : Sat w0 w [.blk g1 [vL, vD, .int .i64 p.stock, .int .i64 p.kerf], .own vPcs1 1 22 ucs1 vvcs1, .sem (Frame.rows 3 ucs1 vvcs1 mlcs1 mfcs1), .own vXcs1 1 3 scs1.n (ints scs1.X), .own vYcs1 1 3 scs1.m (ints scs1.Y), .blk g2 [vPcs1, vXcs1, vYcs1, .int .i64 scs1.val, .int .i64 scs1.den], .own vPcs2 1 22 ucs2 vvcs2, .sem (Frame.rows 3 ucs2 vvcs2 mlcs2 mfcs2), .own vXcs2 1 3 scs2.n (ints scs2.X), .own vYcs2 1 3 scs2.m (ints scs2.Y)] := hS.comp hS'; clear hS'
  have hrwcs2 := fun k (k0 : 0 ≤ k) (k1 : k < ucs2) => hS.slhIn 7 rfl k0 k1
  obtain ⟨q1, q2, q3⟩ := ColR.same hcocs1 hcocs2
  have hs1 : SameS scs1 scs2 := by rw [q2]; exact SameS.refl _
  refine zs3 ?_
  refine zla (xal (cs := [_, _, _, _, _]) el_38 hS) ?_; rintro _ w ⟨g3, rfl, hS⟩
  replace hS := hS.n11
  refine zle (xsw 10 st_38 hS (hd := (ones_cons hvPcs2.one (ones_cons hvXcs2.one (ones_cons hvYcs2.one (ones_cons rfl (ones_cons rfl ones_nil))))))) ?_; clear hS; rintro w hS
  replace hS := hS.n11
  refine zlv xas ?_
  refine zlz ?_
  refine zs4 ?_
  refine zlb 28 ?_ ?_ <;> intro hc
  ·
   refine zlv (xfb 0 fd_31_0) ?_
   refine zlv (xlb 5 pl_27 hS) ?_
   refine zlv (xfb 0 fd_38_0) ?_
   refine zlv (xlb 10 pl_27 hS) ?_
   refine zlc (xc0 cl_13) (c_sall (u := ucs1) (u2 := ucs2) (ml := mlcs1) (ml2 := mlcs2) (mf := mfcs1) (mf2 := mfcs2) w (⟨(hS.rowN 1 rfl), fun k k0 k1 => hS.rowIn 2 rfl k0 k1, fun k k0 k1 => hS.roomIn 2 rfl k0 k1⟩ : MAt _ vPcs1 ucs1 vvcs1 mlcs1 mfcs1) (⟨(hS.rowN 6 rfl), fun k k0 k1 => hS.rowIn 7 rfl k0 k1, fun k k0 k1 => hS.roomIn 7 rfl k0 k1⟩ : MAt _ vPcs2 ucs2 vvcs2 mlcs2 mfcs2)) ?_; rintro _ w ⟨rfl, hS'⟩
   replace hS := hS.cmp hS'; clear hS'
   refine zs2 ?_
   refine zlb 35 ?_ ?_ <;> intro hc
   ·
    refine zlv (xfb 1 fd_31_1) ?_
    refine zlv (xlp 5 (ds := [vXcs1, vYcs1, .int .i64 scs1.val, .int .i64 scs1.den]) st_29 hS) ?_
    refine zlv (xfb 1 fd_38_1) ?_
    refine zlv (xlp 10 (ds := [vXcs2, vYcs2, .int .i64 scs2.val, .int .i64 scs2.den]) st_36 hS) ?_
    refine zlc (xc0 cl_14) (c_samesol (s := scs1) (u := scs2) w (hS.rowN 3 rfl) (hS.rowN 4 rfl) (hS.rowN 8 rfl) (hS.rowN 9 rfl)) ?_; rintro _ w ⟨rfl, hS'⟩
    replace hS := hS.cmp hS'; clear hS'
    refine zs2 ?_
    refine zlt <| zrt <| zf1 ⟨_, rfl, ?_⟩
    exact ⟨(true_B hs1).symm, hS.nl⟩
   iterate 5 refine zlo ?_
   refine zs2 ?_
   refine zlt <| zrt <| zf1 ⟨_, rfl, ?_⟩
   exfalso
   first | omega | exact absurd q1 ‹_› | exact absurd hs1 ‹_›
  iterate 5 refine zlo ?_
  refine zs2 ?_
  iterate 5 refine zlo ?_
  refine zs2 ?_
  refine zlt <| zrt <| zf1 ⟨_, rfl, ?_⟩
  exfalso
  first | omega | exact absurd q1 ‹_› | exact absurd hs1 ‹_›

end Go.Proofs.YtopmifmfecfaaaaGreat
