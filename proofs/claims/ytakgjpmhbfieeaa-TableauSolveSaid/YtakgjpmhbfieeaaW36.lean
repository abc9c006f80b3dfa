/- The walks of SameSolution and TableauSolve. -/
import Derived.Test.YtakgjpmhbfieeaaGc
import Derived.Test.YtakgjpmhbfieeaaW35
namespace Go.Proofs.Ytakgjpmhbfieeaa
open Go Go.RowKit Go.Proofs.Gw
set_option linter.unusedVariables false

theorem cl_33 : calledT Try.prog 33 = true := by kernel_rfl
theorem cl_35 : calledT Try.prog 35 = true := by kernel_rfl
theorem cl_37 : calledT Try.prog 37 = true := by kernel_rfl
def SameS (s u : So) : Prop := (s.n = u.n ∧ ∀ k, 0 ≤ k → k < s.n → s.X k = u.X k) ∧ (s.m = u.m ∧ ∀ k, 0 ≤ k → k < s.m → s.Y k = u.Y k) ∧ s.val = u.val ∧ s.den = u.den
theorem SameS.refl (s : So) : SameS s s := ⟨⟨rfl, fun _ _ _ => rfl⟩, ⟨rfl, fun _ _ _ => rfl⟩, rfl, rfl⟩

set_option maxRecDepth 20000 in
theorem c_samesol {vX vY : Value} {s : So} {xX xY : Value} {u : So} (w0 : World) (hX : Row w0 vX 1 s.n (ints s.X)) (hY : Row w0 vY 1 s.m (ints s.Y)) (hX2 : Row w0 xX 1 u.n (ints u.X)) (hY2 : Row w0 xY 1 u.m (ints u.Y)) :
    Calls Try.prog 37 [.agg #[vX, vY, .int .i64 s.val, .int .i64 s.den], .agg #[xX, xY, .int .i64 u.val, .int .i64 u.den]].toArray w0 fun e w => ∃ v, e = .returned v ∧ v = B (SameS s u) ∧ Sat w0 w [] := by
  refine zenG Try.func37 Try.ntmps37 fun w hS => ?_
  refine zsq <| zrg ?_
  refine zla (xbx (cs := [_, _, _, _]) hS) ?_; rintro _ w ⟨g1, rfl, hS⟩
  replace hS : Sat w0 w [.blk _ [_, _, _, _]] := hS
  refine zla (xbx (cs := [_, _, _, _]) hS) ?_; rintro _ w ⟨g2, rfl, hS⟩
  replace hS : Sat w0 w [.blk _ [_, _, _, _], .blk _ [_, _, _, _]] := hS
  refine zlv xas ?_
  refine zln <| ztn <| zsq <| zrg ?_
  refine zlv (xfb 0 fd_37_0) ?_
  refine zlv (xlb 0 pl_22 hS) ?_
  refine zlv (xfb 0 fd_37_0) ?_
  refine zlv (xlb 1 pl_22 hS) ?_
  refine zlc (xc0 cl_38) (c_same0 (n := s.n) (m := u.n) (f := s.X) (g := u.X) w (hX.below hS.below) (hX2.below hS.below)) ?_; rintro _ w ⟨rfl, hS'⟩
  replace hS := hS.cmp hS'; clear hS'
  refine zlv xmv ?_
  refine zlb 10 ?_ ?_ <;> intro hc
  ·
   refine zlv (xfb 1 fd_37_1) ?_
   refine zlv (xlb 0 pl_22 hS) ?_
   refine zlv (xfb 1 fd_37_1) ?_
   refine zlv (xlb 1 pl_22 hS) ?_
   refine zlc (xc0 cl_38) (c_same0 (n := s.m) (m := u.m) (f := s.Y) (g := u.Y) w (hY.below hS.below) (hY2.below hS.below)) ?_; rintro _ w ⟨rfl, hS'⟩
   replace hS := hS.cmp hS'; clear hS'
   refine zlv xpt ?_
   refine zlv xmv ?_
   refine zlb 17 ?_ ?_ <;> intro hc
   ·
    refine zlv (xfb 2 fd_37_2) ?_
    refine zlv (xlb 0 pl_3 hS) ?_
    refine zlv (xfb 2 fd_37_2) ?_
    refine zlv (xlb 1 pl_3 hS) ?_
    refine zlv xeql ?_
    refine zlv xpt ?_
    refine zlv xmv ?_
    refine zlb 24 ?_ ?_ <;> intro hc
    ·
     refine zlv (xfb 3 fd_37_3) ?_
     refine zlv (xlb 0 pl_3 hS) ?_
     refine zlv (xfb 3 fd_37_3) ?_
     refine zlv (xlb 1 pl_3 hS) ?_
     refine zlv xeql ?_
     refine zlv xpt ?_
     refine zlv xas ?_
     refine zln <| ztn <| zrt <| zf1 ⟨_, rfl, ?_⟩
     exact ⟨B_congr ⟨fun hx => ⟨by first | assumption | exact Classical.not_not.1 ‹¬ ¬ (s.n = u.n ∧ ∀ k, 0 ≤ k → k < s.n → s.X k = u.X k)›, by first | assumption | exact Classical.not_not.1 ‹¬ ¬ (s.m = u.m ∧ ∀ k, 0 ≤ k → k < s.m → s.Y k = u.Y k)›, by omega, by omega⟩, fun h => by have h1 := h.2.2.1; have h2 := h.2.2.2; omega⟩, hS.nl⟩
    ·
     iterate 5 refine zlo ?_
     refine zlv xpf ?_
     refine zlv xas ?_
     refine zln <| ztn <| zrt <| zf1 ⟨_, rfl, ?_⟩
     exact ⟨false_B (by rintro ⟨h1, h2, h3, h4⟩; first | omega | exact absurd h1 ‹¬ (s.n = u.n ∧ ∀ k, 0 ≤ k → k < s.n → s.X k = u.X k)› | exact absurd h2 ‹¬ (s.m = u.m ∧ ∀ k, 0 ≤ k → k < s.m → s.Y k = u.Y k)›), hS.nl⟩
   ·
    iterate 5 refine zlo ?_
    refine zlv xpf ?_
    refine zlv xmv ?_
    iterate 5 refine zlo ?_
    refine zlv xpf ?_
    refine zlv xas ?_
    refine zln <| ztn <| zrt <| zf1 ⟨_, rfl, ?_⟩
    exact ⟨false_B (by rintro ⟨h1, h2, h3, h4⟩; first | omega | exact absurd h1 ‹¬ (s.n = u.n ∧ ∀ k, 0 ≤ k → k < s.n → s.X k = u.X k)› | exact absurd h2 ‹¬ (s.m = u.m ∧ ∀ k, 0 ≤ k → k < s.m → s.Y k = u.Y k)›), hS.nl⟩
  ·
   iterate 5 refine zlo ?_
   refine zlv xpf ?_
   refine zlv xmv ?_
   iterate 5 refine zlo ?_
   refine zlv xpf ?_
   refine zlv xmv ?_
   iterate 5 refine zlo ?_
   refine zlv xpf ?_
   refine zlv xas ?_
   refine zln <| ztn <| zrt <| zf1 ⟨_, rfl, ?_⟩
   exact ⟨false_B (by rintro ⟨h1, h2, h3, h4⟩; first | omega | exact absurd h1 ‹¬ (s.n = u.n ∧ ∀ k, 0 ≤ k → k < s.n → s.X k = u.X k)› | exact absurd h2 ‹¬ (s.m = u.m ∧ ∀ k, 0 ≤ k → k < s.m → s.Y k = u.Y k)›), hS.nl⟩

set_option maxRecDepth 20000 in
theorem law_solve {vc vA vb : Value} {vq : Int → Value} {p : Lp} (w0 : World) (hL : LAt w0 vc vA vb vq p) :
    Calls Try.prog 10 [.agg #[vc, vA, vb]].toArray w0 fun e w => ∃ v, e = .returned v ∧ v = .bool true ∧ Sat w0 w [] := by
  have hn := hL.c.slh.n0; have hn1 := hL.c.slh.n1; have hm := hL.A.row.slh.n0; have hm1 := hL.A.row.slh.n1; have hk := hL.b.slh.n0; have hk1 := hL.b.slh.n1
  refine zenG Try.func10 Try.ntmps10 fun w hS => ?_
  refine zsq <| zrg ?_
  refine zla (xbx (cs := [_, _, _]) hS) ?_; rintro _ w ⟨g1, rfl, hS⟩
  replace hS : Sat w0 w [.blk _ [_, _, _]] := hS
  refine zlv xas ?_
  refine zln <| ztn <| zsq <| zsq <| zrg ?_
  refine zlc (xc0 cl_12) (c_awake w) ?_; rintro _ w ⟨rfl, hS'⟩
  replace hS := hS.cmp hS'; clear hS'
  refine zlv xnt ?_
  refine zlv xmv ?_
  refine zlv (xls 0 st_25 hS) ?_
  refine zlc (xc0 cl_13) (c_few (p := p) w (hL.below hS.below)) ?_; rintro _ w ⟨rfl, hS'⟩
  replace hS := hS.cmp hS'; clear hS'
  refine zlv xnot ?_
  refine zlv xpf ?_
  refine zln <| ztn ?_
  refine zcif ?_ ?_ <;> intro hc
  ·
   refine zsq <| zrg ?_
   refine zlc (xc0 cl_12) (c_awake w) ?_; rintro _ w ⟨rfl, hS'⟩
   replace hS := hS.cmp hS'; clear hS'
   refine zlv xas ?_
   refine zln <| ztn <| zrt <| ztr <| zf1 ⟨_, rfl, ?_⟩
   exact ⟨rfl, hS.nl⟩
  ·
   refine zsk <| ztn <| zsq <| zrg ?_
   refine zlv (xls 0 st_25 hS) ?_
   refine zlc (xc0 cl_16) (c_own (p := p) w (hL.below hS.below)) ?_; rintro _ w ⟨rfl, hS'⟩
   replace hS := hS.cmp hS'; clear hS'
   refine zlc (xc0 cl_20) (c_start (p := p) w (hL.below hS.below)) ?_; rintro _ w ⟨vBk1, vFk1, vCk1, vvk1, tk1, ek1, rfl, hstk1, hsBk1, hsFk1, hsCk1, hS'⟩
   replace hS : Sat w0 w [.blk g1 [vc, vA, vb], .own vBk1 1 3 tk1.nb (ints tk1.B), .own vFk1 1 3 tk1.nf (ints tk1.F), .own vCk1 1 22 tk1.nc vvk1, .sem (Frame.rows 3 tk1.nc vvk1 tk1.ln tk1.C)] := hS.comp hS'; clear hS'
   have hrsk1 := fun k (k0 : 0 ≤ k) (k1 : k < tk1.nc) => hS.slhIn 4 rfl k0 k1
   refine zlv xmv ?_
   iterate 2 refine zlv xex ?_
   refine zla (xal (cs := [_, _, _, _, _]) el_43 hS) ?_; rintro _ w ⟨g2, rfl, hS⟩
   replace hS : Sat w0 w [.blk _ [_, _, _], _, _, _, _, .blk _ [_, _, _, _, _]] := hS
   refine zle (xsw 5 st_43 hS (hd := (ones_cons rfl (ones_cons rfl (ones_cons hsBk1.one (ones_cons hsFk1.one (ones_cons hsCk1.one ones_nil))))))) ?_; clear hS; rintro w hS
   replace hS : Sat w0 w [.blk _ [_, _, _], _, _, _, _, .blk _ [_, _, _, _, _]] := hS
   refine zlv xas ?_
   refine zln <| ztn <| zsq <| zrg ?_
   refine zlv (xls 0 st_25 hS) ?_
   refine zlc (xc0 cl_32) (c_rstart (p := p) w (hL.below hS.below)) ?_; rintro _ w ⟨vBk2, vFk2, vCk2, vvk2, tk2, ek2, rfl, hstk2, hsBk2, hsFk2, hsCk2, hS'⟩
   replace hS : Sat w0 w [.blk g1 [vc, vA, vb], .own vBk1 1 3 tk1.nb (ints tk1.B), .own vFk1 1 3 tk1.nf (ints tk1.F), .own vCk1 1 22 tk1.nc vvk1, .sem (Frame.rows 3 tk1.nc vvk1 tk1.ln tk1.C), .blk g2 [.int .i64 tk1.vars, .int .i64 tk1.den, vBk1, vFk1, vCk1], .own vBk2 1 3 tk2.nb (ints tk2.B), .own vFk2 1 3 tk2.nf (ints tk2.F), .own vCk2 1 22 tk2.nc vvk2, .sem (Frame.rows 3 tk2.nc vvk2 tk2.ln tk2.C)] := hS.comp hS'; clear hS'
   have hrsk2 := fun k (k0 : 0 ≤ k) (k1 : k < tk2.nc) => hS.slhIn 9 rfl k0 k1
   refine zlv xmv ?_
   iterate 2 refine zlv xex ?_
   refine zla (xal (cs := [_, _, _, _, _]) el_48 hS) ?_; rintro _ w ⟨g3, rfl, hS⟩
   replace hS : Sat w0 w [.blk _ [_, _, _], _, _, _, _, .blk _ [_, _, _, _, _], _, _, _, _, .blk _ [_, _, _, _, _]] := hS
   refine zle (xsw 10 st_48 hS (hd := (ones_cons rfl (ones_cons rfl (ones_cons hsBk2.one (ones_cons hsFk2.one (ones_cons hsCk2.one ones_nil))))))) ?_; clear hS; rintro w hS
   replace hS : Sat w0 w [.blk _ [_, _, _], _, _, _, _, .blk _ [_, _, _, _, _], _, _, _, _, .blk _ [_, _, _, _, _]] := hS
   refine zlv xas ?_
   refine zln <| ztn <| zsq <| zrg ?_
   refine zlv (xls 5 st_43 hS) ?_
   refine zlc (xc0 cl_28) (c_Optimize (t := tk1) w (⟨(hS.rowN 1 rfl), (hS.rowN 2 rfl), (⟨(hS.rowN 3 rfl), fun k k0 k1 => hS.rowIn 4 rfl k0 k1, fun k k0 k1 => hS.roomIn 4 rfl k0 k1⟩ : MAt _ vCk1 tk1.nc vvk1 tk1.ln tk1.C)⟩ : TAt _ vBk1 vFk1 vCk1 vvk1 tk1)) ?_; rintro _ w ⟨vBk3, vFk3, vCk3, vvk3, tk3, ek3, rfl, hopk3, hsBk3, hsFk3, hsCk3, hS'⟩
   replace hS : Sat w0 w [.blk g1 [vc, vA, vb], .own vBk1 1 3 tk1.nb (ints tk1.B), .own vFk1 1 3 tk1.nf (ints tk1.F), .own vCk1 1 22 tk1.nc vvk1, .sem (Frame.rows 3 tk1.nc vvk1 tk1.ln tk1.C), .blk g2 [.int .i64 tk1.vars, .int .i64 tk1.den, vBk1, vFk1, vCk1], .own vBk2 1 3 tk2.nb (ints tk2.B), .own vFk2 1 3 tk2.nf (ints tk2.F), .own vCk2 1 22 tk2.nc vvk2, .sem (Frame.rows 3 tk2.nc vvk2 tk2.ln tk2.C), .blk g3 [.int .i64 tk2.vars, .int .i64 tk2.den, vBk2, vFk2, vCk2], .own vBk3 1 3 tk3.nb (ints tk3.B), .own vFk3 1 3 tk3.nf (ints tk3.F), .own vCk3 1 22 tk3.nc vvk3, .sem (Frame.rows 3 tk3.nc vvk3 tk3.ln tk3.C)] := hS.comp hS'; clear hS'
   have hrsk3 := fun k (k0 : 0 ≤ k) (k1 : k < tk3.nc) => hS.slhIn 14 rfl k0 k1
   refine zlv xmv ?_
   iterate 2 refine zlv xex ?_
   refine zla (xal (cs := [_, _, _, _, _]) el_43 hS) ?_; rintro _ w ⟨g4, rfl, hS⟩
   replace hS : Sat w0 w [.blk _ [_, _, _], _, _, _, _, .blk _ [_, _, _, _, _], _, _, _, _, .blk _ [_, _, _, _, _], _, _, _, _, .blk _ [_, _, _, _, _]] := hS
   refine zle (xsw 15 st_43 hS (hd := (ones_cons rfl (ones_cons rfl (ones_cons hsBk3.one (ones_cons hsFk3.one (ones_cons hsCk3.one ones_nil))))))) ?_; clear hS; rintro w hS
   replace hS : Sat w0 w [.blk _ [_, _, _], _, _, _, _, .blk _ [_, _, _, _, _], _, _, _, _, .blk _ [_, _, _, _, _], _, _, _, _, .blk _ [_, _, _, _, _]] := hS
   refine zlv xas ?_
   refine zln <| ztn <| zsq <| zrg ?_
   refine zlv (xls 10 st_48 hS) ?_
   refine zlc (xc0 cl_29) (c_rOptimize (t := tk2) w (⟨(hS.rowN 6 rfl), (hS.rowN 7 rfl), (⟨(hS.rowN 8 rfl), fun k k0 k1 => hS.rowIn 9 rfl k0 k1, fun k k0 k1 => hS.roomIn 9 rfl k0 k1⟩ : MAt _ vCk2 tk2.nc vvk2 tk2.ln tk2.C)⟩ : TAt _ vBk2 vFk2 vCk2 vvk2 tk2)) ?_; rintro _ w ⟨vBk4, vFk4, vCk4, vvk4, tk4, ek4, rfl, hopk4, hsBk4, hsFk4, hsCk4, hS'⟩
   replace hS : Sat w0 w [.blk g1 [vc, vA, vb], .own vBk1 1 3 tk1.nb (ints tk1.B), .own vFk1 1 3 tk1.nf (ints tk1.F), .own vCk1 1 22 tk1.nc vvk1, .sem (Frame.rows 3 tk1.nc vvk1 tk1.ln tk1.C), .blk g2 [.int .i64 tk1.vars, .int .i64 tk1.den, vBk1, vFk1, vCk1], .own vBk2 1 3 tk2.nb (ints tk2.B), .own vFk2 1 3 tk2.nf (ints tk2.F), .own vCk2 1 22 tk2.nc vvk2, .sem (Frame.rows 3 tk2.nc vvk2 tk2.ln tk2.C), .blk g3 [.int .i64 tk2.vars, .int .i64 tk2.den, vBk2, vFk2, vCk2], .own vBk3 1 3 tk3.nb (ints tk3.B), .own vFk3 1 3 tk3.nf (ints tk3.F), .own vCk3 1 22 tk3.nc vvk3, .sem (Frame.rows 3 tk3.nc vvk3 tk3.ln tk3.C), .blk g4 [.int .i64 tk3.vars, .int .i64 tk3.den, vBk3, vFk3, vCk3], .own vBk4 1 3 tk4.nb (ints tk4.B), .own vFk4 1 3 tk4.nf (ints tk4.F), .own vCk4 1 22 tk4.nc vvk4, .sem (Frame.rows 3 tk4.nc vvk4 tk4.ln tk4.C)] := hS.comp hS'; clear hS'
   have hrsk4 := fun k (k0 : 0 ≤ k) (k1 : k < tk4.nc) => hS.slhIn 19 rfl k0 k1
   refine zlv xmv ?_
   iterate 2 refine zlv xex ?_
   refine zla (xal (cs := [_, _, _, _, _]) el_48 hS) ?_; rintro _ w ⟨g5, rfl, hS⟩
   replace hS : Sat w0 w [.blk _ [_, _, _], _, _, _, _, .blk _ [_, _, _, _, _], _, _, _, _, .blk _ [_, _, _, _, _], _, _, _, _, .blk _ [_, _, _, _, _], _, _, _, _, .blk _ [_, _, _, _, _]] := hS
   refine zle (xsw 20 st_48 hS (hd := (ones_cons rfl (ones_cons rfl (ones_cons hsBk4.one (ones_cons hsFk4.one (ones_cons hsCk4.one ones_nil))))))) ?_; clear hS; rintro w hS
   replace hS : Sat w0 w [.blk _ [_, _, _], _, _, _, _, .blk _ [_, _, _, _, _], _, _, _, _, .blk _ [_, _, _, _, _], _, _, _, _, .blk _ [_, _, _, _, _], _, _, _, _, .blk _ [_, _, _, _, _]] := hS
   refine zlv xas ?_
   refine zln <| ztn <| zsq <| zrg ?_
   refine zlv (xls 0 st_25 hS) ?_
   refine zlc (xc0 cl_16) (c_own (p := p) w (hL.below hS.below)) ?_; rintro _ w ⟨rfl, hS'⟩
   replace hS := hS.cmp hS'; clear hS'
   refine zlc (xc0 cl_15) (c_solve (p := p) w (hL.below hS.below)) ?_; rintro _ w ⟨vXs1, vYs1, ss1, es1, rfl, hsos1, hvXs1, hvYs1, hS'⟩
   replace hS : Sat w0 w [.blk g1 [vc, vA, vb], .own vBk1 1 3 tk1.nb (ints tk1.B), .own vFk1 1 3 tk1.nf (ints tk1.F), .own vCk1 1 22 tk1.nc vvk1, .sem (Frame.rows 3 tk1.nc vvk1 tk1.ln tk1.C), .blk g2 [.int .i64 tk1.vars, .int .i64 tk1.den, vBk1, vFk1, vCk1], .own vBk2 1 3 tk2.nb (ints tk2.B), .own vFk2 1 3 tk2.nf (ints tk2.F), .own vCk2 1 22 tk2.nc vvk2, .sem (Frame.rows 3 tk2.nc vvk2 tk2.ln tk2.C), .blk g3 [.int .i64 tk2.vars, .int .i64 tk2.den, vBk2, vFk2, vCk2], .own vBk3 1 3 tk3.nb (ints tk3.B), .own vFk3 1 3 tk3.nf (ints tk3.F), .own vCk3 1 22 tk3.nc vvk3, .sem (Frame.rows 3 tk3.nc vvk3 tk3.ln tk3.C), .blk g4 [.int .i64 tk3.vars, .int .i64 tk3.den, vBk3, vFk3, vCk3], .own vBk4 1 3 tk4.nb (ints tk4.B), .own vFk4 1 3 tk4.nf (ints tk4.F), .own vCk4 1 22 tk4.nc vvk4, .sem (Frame.rows 3 tk4.nc vvk4 tk4.ln tk4.C), .blk g5 [.int .i64 tk4.vars, .int .i64 tk4.den, vBk4, vFk4, vCk4], .own vXs1 1 3 ss1.n (ints ss1.X), .own vYs1 1 3 ss1.m (ints ss1.Y)] := hS.comp hS'; clear hS'
   refine zlv xmv ?_
   iterate 2 refine zlv xex ?_
   refine zla (xal (cs := [_, _, _, _]) el_30 hS) ?_; rintro _ w ⟨g6, rfl, hS⟩
   replace hS : Sat w0 w [.blk _ [_, _, _], _, _, _, _, .blk _ [_, _, _, _, _], _, _, _, _, .blk _ [_, _, _, _, _], _, _, _, _, .blk _ [_, _, _, _, _], _, _, _, _, .blk _ [_, _, _, _, _], _, _, .blk _ [_, _, _, _]] := hS
   refine zle (xsw 23 st_30 hS (hd := (ones_cons hvXs1.one (ones_cons hvYs1.one (ones_cons rfl (ones_cons rfl ones_nil)))))) ?_; clear hS; rintro w hS
   replace hS : Sat w0 w [.blk _ [_, _, _], _, _, _, _, .blk _ [_, _, _, _, _], _, _, _, _, .blk _ [_, _, _, _, _], _, _, _, _, .blk _ [_, _, _, _, _], _, _, _, _, .blk _ [_, _, _, _, _], _, _, .blk _ [_, _, _, _]] := hS
   refine zlv xas ?_
   refine zln <| ztn <| zsq <| zrg ?_
   refine zlv (xls 0 st_25 hS) ?_
   refine zlc (xc0 cl_33) (c_rsolve (p := p) w (hL.below hS.below)) ?_; rintro _ w ⟨vXs2, vYs2, ss2, es2, rfl, hsos2, hvXs2, hvYs2, hS'⟩
   replace hS : Sat w0 w [.blk g1 [vc, vA, vb], .own vBk1 1 3 tk1.nb (ints tk1.B), .own vFk1 1 3 tk1.nf (ints tk1.F), .own vCk1 1 22 tk1.nc vvk1, .sem (Frame.rows 3 tk1.nc vvk1 tk1.ln tk1.C), .blk g2 [.int .i64 tk1.vars, .int .i64 tk1.den, vBk1, vFk1, vCk1], .own vBk2 1 3 tk2.nb (ints tk2.B), .own vFk2 1 3 tk2.nf (ints tk2.F), .own vCk2 1 22 tk2.nc vvk2, .sem (Frame.rows 3 tk2.nc vvk2 tk2.ln tk2.C), .blk g3 [.int .i64 tk2.vars, .int .i64 tk2.den, vBk2, vFk2, vCk2], .own vBk3 1 3 tk3.nb (ints tk3.B), .own vFk3 1 3 tk3.nf (ints tk3.F), .own vCk3 1 22 tk3.nc vvk3, .sem (Frame.rows 3 tk3.nc vvk3 tk3.ln tk3.C), .blk g4 [.int .i64 tk3.vars, .int .i64 tk3.den, vBk3, vFk3, vCk3], .own vBk4 1 3 tk4.nb (ints tk4.B), .own vFk4 1 3 tk4.nf (ints tk4.F), .own vCk4 1 22 tk4.nc vvk4, .sem (Frame.rows 3 tk4.nc vvk4 tk4.ln tk4.C), .blk g5 [.int .i64 tk4.vars, .int .i64 tk4.den, vBk4, vFk4, vCk4], .own vXs1 1 3 ss1.n (ints ss1.X), .own vYs1 1 3 ss1.m (ints ss1.Y), .blk g6 [vXs1, vYs1, .int .i64 ss1.val, .int .i64 ss1.den], .own vXs2 1 3 ss2.n (ints ss2.X), .own vYs2 1 3 ss2.m (ints ss2.Y)] := hS.comp hS'; clear hS'
   refine zlv xmv ?_
   iterate 2 refine zlv xex ?_
   refine zla (xal (cs := [_, _, _, _]) el_37 hS) ?_; rintro _ w ⟨g7, rfl, hS⟩
   replace hS : Sat w0 w [.blk _ [_, _, _], _, _, _, _, .blk _ [_, _, _, _, _], _, _, _, _, .blk _ [_, _, _, _, _], _, _, _, _, .blk _ [_, _, _, _, _], _, _, _, _, .blk _ [_, _, _, _, _], _, _, .blk _ [_, _, _, _], _, _, .blk _ [_, _, _, _]] := hS
   refine zle (xsw 26 st_37 hS (hd := (ones_cons hvXs2.one (ones_cons hvYs2.one (ones_cons rfl (ones_cons rfl ones_nil)))))) ?_; clear hS; rintro w hS
   replace hS : Sat w0 w [.blk _ [_, _, _], _, _, _, _, .blk _ [_, _, _, _, _], _, _, _, _, .blk _ [_, _, _, _, _], _, _, _, _, .blk _ [_, _, _, _, _], _, _, _, _, .blk _ [_, _, _, _, _], _, _, .blk _ [_, _, _, _], _, _, .blk _ [_, _, _, _]] := hS
   refine zlv xas ?_
   refine zln <| ztn <| zsq <| zrg ?_
   refine zlv (xls 0 st_25 hS) ?_
   refine zlc (xc0 cl_16) (c_own (p := p) w (hL.below hS.below)) ?_; rintro _ w ⟨rfl, hS'⟩
   replace hS := hS.cmp hS'; clear hS'
   refine zlc (xc0 cl_34) (c_refute (p := p) w (hL.below hS.below)) ?_; rintro _ w ⟨vyz1, yz1, myz1, fz1, rfl, hrefz1, hvyz1, hS'⟩
   replace hS : Sat w0 w [.blk g1 [vc, vA, vb], .own vBk1 1 3 tk1.nb (ints tk1.B), .own vFk1 1 3 tk1.nf (ints tk1.F), .own vCk1 1 22 tk1.nc vvk1, .sem (Frame.rows 3 tk1.nc vvk1 tk1.ln tk1.C), .blk g2 [.int .i64 tk1.vars, .int .i64 tk1.den, vBk1, vFk1, vCk1], .own vBk2 1 3 tk2.nb (ints tk2.B), .own vFk2 1 3 tk2.nf (ints tk2.F), .own vCk2 1 22 tk2.nc vvk2, .sem (Frame.rows 3 tk2.nc vvk2 tk2.ln tk2.C), .blk g3 [.int .i64 tk2.vars, .int .i64 tk2.den, vBk2, vFk2, vCk2], .own vBk3 1 3 tk3.nb (ints tk3.B), .own vFk3 1 3 tk3.nf (ints tk3.F), .own vCk3 1 22 tk3.nc vvk3, .sem (Frame.rows 3 tk3.nc vvk3 tk3.ln tk3.C), .blk g4 [.int .i64 tk3.vars, .int .i64 tk3.den, vBk3, vFk3, vCk3], .own vBk4 1 3 tk4.nb (ints tk4.B), .own vFk4 1 3 tk4.nf (ints tk4.F), .own vCk4 1 22 tk4.nc vvk4, .sem (Frame.rows 3 tk4.nc vvk4 tk4.ln tk4.C), .blk g5 [.int .i64 tk4.vars, .int .i64 tk4.den, vBk4, vFk4, vCk4], .own vXs1 1 3 ss1.n (ints ss1.X), .own vYs1 1 3 ss1.m (ints ss1.Y), .blk g6 [vXs1, vYs1, .int .i64 ss1.val, .int .i64 ss1.den], .own vXs2 1 3 ss2.n (ints ss2.X), .own vYs2 1 3 ss2.m (ints ss2.Y), .blk g7 [vXs2, vYs2, .int .i64 ss2.val, .int .i64 ss2.den], .own vyz1 1 3 myz1 (ints yz1)] := hS.comp hS'; clear hS'
   refine zlv xmv ?_
   iterate 2 refine zlv xex ?_
   iterate 2 refine zlv xas ?_
   refine zln <| ztn <| zsq <| zrg ?_
   refine zlv (xls 0 st_25 hS) ?_
   refine zlc (xc0 cl_35) (c_rrefute (p := p) w (hL.below hS.below)) ?_; rintro _ w ⟨vyz2, yz2, myz2, fz2, rfl, hrefz2, hvyz2, hS'⟩
   replace hS : Sat w0 w [.blk g1 [vc, vA, vb], .own vBk1 1 3 tk1.nb (ints tk1.B), .own vFk1 1 3 tk1.nf (ints tk1.F), .own vCk1 1 22 tk1.nc vvk1, .sem (Frame.rows 3 tk1.nc vvk1 tk1.ln tk1.C), .blk g2 [.int .i64 tk1.vars, .int .i64 tk1.den, vBk1, vFk1, vCk1], .own vBk2 1 3 tk2.nb (ints tk2.B), .own vFk2 1 3 tk2.nf (ints tk2.F), .own vCk2 1 22 tk2.nc vvk2, .sem (Frame.rows 3 tk2.nc vvk2 tk2.ln tk2.C), .blk g3 [.int .i64 tk2.vars, .int .i64 tk2.den, vBk2, vFk2, vCk2], .own vBk3 1 3 tk3.nb (ints tk3.B), .own vFk3 1 3 tk3.nf (ints tk3.F), .own vCk3 1 22 tk3.nc vvk3, .sem (Frame.rows 3 tk3.nc vvk3 tk3.ln tk3.C), .blk g4 [.int .i64 tk3.vars, .int .i64 tk3.den, vBk3, vFk3, vCk3], .own vBk4 1 3 tk4.nb (ints tk4.B), .own vFk4 1 3 tk4.nf (ints tk4.F), .own vCk4 1 22 tk4.nc vvk4, .sem (Frame.rows 3 tk4.nc vvk4 tk4.ln tk4.C), .blk g5 [.int .i64 tk4.vars, .int .i64 tk4.den, vBk4, vFk4, vCk4], .own vXs1 1 3 ss1.n (ints ss1.X), .own vYs1 1 3 ss1.m (ints ss1.Y), .blk g6 [vXs1, vYs1, .int .i64 ss1.val, .int .i64 ss1.den], .own vXs2 1 3 ss2.n (ints ss2.X), .own vYs2 1 3 ss2.m (ints ss2.Y), .blk g7 [vXs2, vYs2, .int .i64 ss2.val, .int .i64 ss2.den], .own vyz1 1 3 myz1 (ints yz1), .own vyz2 1 3 myz2 (ints yz2)] := hS.comp hS'; clear hS'
   obtain ⟨q1, q2⟩ := hstk1.same hstk2
   obtain ⟨q3, q4⟩ := OptR.same hopk3 (by rw [q1]; exact hopk4)
   obtain ⟨q5, q6⟩ := hsos1.same hsos2
   obtain ⟨q7, q8, q9⟩ := hrefz1.same hrefz2
   have hs1 : SameT tk1 tk2 := by rw [q1]; exact SameT.refl _
   have hs2 : SameT tk3 tk4 := by rw [q3]; exact SameT.refl _
   have hs3 : SameS ss1 ss2 := by rw [q5]; exact SameS.refl _
   have hs4 : myz1 = myz2 ∧ ∀ k, 0 ≤ k → k < myz1 → yz1 k = yz2 k := ⟨q7, fun k k0 k1 => by rw [q9 (by omega)]⟩
   have hdd : LOk p ↔ LOk p := Iff.rfl
   refine zlv xmv ?_
   iterate 2 refine zlv xex ?_
   iterate 2 refine zlv xas ?_
   refine zln <| ztn <| zsq ?_
   refine zdst [0, 1, 2, 3, 4, 5, 6, 7, 8, 9, 10, 11, 12, 13, 14, 15, 16, 17, 18, 19, 20, 21, 22, 23, 24, 25, 26, 27, 28] [0, 1, 2, 3, 4, 5, 6, 7, 8, 9, 10, 11, 12, 13, 14, 15, 16, 17, 18, 19, 20, 21, 22, 23, 24, 25, 26, 27, 28] 1000 mx_ hS ?_; clear hS; intro w hS
   refine zdla 0 (fun w hS => (xls 0 st_25 hS)) ?_
   refine zdla 3 (fun w hS => (xls 0 st_25 hS)) ?_
   refine zdc 1 (xc0 cl_16) (c_own (p := p) w (hL.below hS.below)) ?_; rintro _ w ⟨rfl, hS'⟩
   replace hS := hS.cmp hS'; clear hS'
   refine ⟨⟨fun _ => hS, hS⟩, ?_⟩
   refine zdc 2 (xc0 cl_36) (c_valid (p := p) w (hL.below hS.below)) ?_; rintro _ w ⟨rfl, hS'⟩
   replace hS := hS.cmp hS'; clear hS'
   refine ⟨⟨fun _ => hS, hS⟩, ?_⟩
   refine zdc 4 (xc0 cl_14) (c_rvalid (p := p) w (hL.below hS.below)) ?_; rintro _ w ⟨rfl, hS'⟩
   replace hS := hS.cmp hS'; clear hS'
   refine ⟨⟨fun _ => hS, hS⟩, ?_⟩
   refine zdvr 5 rfl rfl rfl rfl (by kernel_rfl) rfl (fun w => (ex_eqb rfl rfl rfl)) ?_
   refine zdv 6 (fun _ => xmv) ?_
   refine zdb 76 ?_ ?_ <;> intro hc
   ·
    refine zdv 7 (fun _ => xmv) ?_
    refine zdv 8 (fun _ => xmv) ?_
    refine zdv 9 (fun _ => xeql) ?_
    refine zdv 10 (fun _ => xpt) ?_
    refine zdv 11 (fun _ => xmv) ?_
    refine zdb 81 ?_ ?_ <;> intro hc
    ·
     refine zdla 12 (fun w hS => (xls 5 st_43 hS)) ?_
     refine zdla 13 (fun w hS => (xls 10 st_48 hS)) ?_
     refine zdc 14 (xc0 cl_24) (c_same (t := tk1) (u := tk2) w (⟨(hS.rowN 1 rfl), (hS.rowN 2 rfl), (⟨(hS.rowN 3 rfl), fun k k0 k1 => hS.rowIn 4 rfl k0 k1, fun k k0 k1 => hS.roomIn 4 rfl k0 k1⟩ : MAt _ vCk1 tk1.nc vvk1 tk1.ln tk1.C)⟩ : TAt _ vBk1 vFk1 vCk1 vvk1 tk1) (⟨(hS.rowN 6 rfl), (hS.rowN 7 rfl), (⟨(hS.rowN 8 rfl), fun k k0 k1 => hS.rowIn 9 rfl k0 k1, fun k k0 k1 => hS.roomIn 9 rfl k0 k1⟩ : MAt _ vCk2 tk2.nc vvk2 tk2.ln tk2.C)⟩ : TAt _ vBk2 vFk2 vCk2 vvk2 tk2)) ?_; rintro _ w ⟨rfl, hS'⟩
     replace hS := hS.cmp hS'; clear hS'
     refine ⟨⟨fun _ => hS, hS⟩, ?_⟩
     refine zdv 15 (fun _ => xpt) ?_
     refine zdv 16 (fun _ => xmv) ?_
     refine zdb 86 ?_ ?_ <;> intro hc
     ·
      refine zdv 17 (fun _ => xmv) ?_
      refine zdv 18 (fun _ => xmv) ?_
      refine zdv 19 (fun _ => xeql) ?_
      refine zdv 20 (fun _ => xpt) ?_
      refine zdv 21 (fun _ => xmv) ?_
      refine zdb 91 ?_ ?_ <;> intro hc
      ·
       refine zdla 22 (fun w hS => (xls 15 st_43 hS)) ?_
       refine zdla 23 (fun w hS => (xls 20 st_48 hS)) ?_
       refine zdc 24 (xc0 cl_24) (c_same (t := tk3) (u := tk4) w (⟨(hS.rowN 11 rfl), (hS.rowN 12 rfl), (⟨(hS.rowN 13 rfl), fun k k0 k1 => hS.rowIn 14 rfl k0 k1, fun k k0 k1 => hS.roomIn 14 rfl k0 k1⟩ : MAt _ vCk3 tk3.nc vvk3 tk3.ln tk3.C)⟩ : TAt _ vBk3 vFk3 vCk3 vvk3 tk3) (⟨(hS.rowN 16 rfl), (hS.rowN 17 rfl), (⟨(hS.rowN 18 rfl), fun k k0 k1 => hS.rowIn 19 rfl k0 k1, fun k k0 k1 => hS.roomIn 19 rfl k0 k1⟩ : MAt _ vCk4 tk4.nc vvk4 tk4.ln tk4.C)⟩ : TAt _ vBk4 vFk4 vCk4 vvk4 tk4)) ?_; rintro _ w ⟨rfl, hS'⟩
       replace hS := hS.cmp hS'; clear hS'
       refine ⟨⟨fun _ => hS, hS⟩, ?_⟩
       refine zdv 25 (fun _ => xpt) ?_
       refine zdv 26 (fun _ => xmv) ?_
       refine zdb 96 ?_ ?_ <;> intro hc
       ·
        refine zdv 27 (fun _ => xmv) ?_
        refine zdv 28 (fun _ => xmv) ?_
        refine zdv 29 (fun _ => xeql) ?_
        refine zdv 30 (fun _ => xpt) ?_
        refine zdv 31 (fun _ => xmv) ?_
        refine zdb 101 ?_ ?_ <;> intro hc
        ·
         refine zdla 32 (fun w hS => (xls 23 st_30 hS)) ?_
         refine zdla 33 (fun w hS => (xls 26 st_37 hS)) ?_
         refine zdc 34 (xc0 cl_37) (c_samesol (s := ss1) (u := ss2) w (hS.rowN 21 rfl) (hS.rowN 22 rfl) (hS.rowN 24 rfl) (hS.rowN 25 rfl)) ?_; rintro _ w ⟨rfl, hS'⟩
         replace hS := hS.cmp hS'; clear hS'
         refine ⟨⟨fun _ => hS, hS⟩, ?_⟩
         refine zdv 35 (fun _ => xpt) ?_
         refine zdv 36 (fun _ => xmv) ?_
         refine zdb 106 ?_ ?_ <;> intro hc
         ·
          refine zdv 37 (fun _ => xmv) ?_
          refine zdv 38 (fun _ => xmv) ?_
          refine zdv 39 (fun _ => xeql) ?_
          refine zdv 40 (fun _ => xpt) ?_
          refine zdv 41 (fun _ => xmv) ?_
          refine zdb 111 ?_ ?_ <;> intro hc
          ·
           refine zdv 42 (fun _ => xmv) ?_
           refine zdv 43 (fun _ => xmv) ?_
           refine zdc 44 (xc0 cl_38) (c_same0 (n := myz1) (m := myz2) (f := yz1) (g := yz2) w (hS.rowN 27 rfl) (hS.rowN 28 rfl)) ?_; rintro _ w ⟨rfl, hS'⟩
           replace hS := hS.cmp hS'; clear hS'
           refine ⟨⟨fun _ => hS, hS⟩, ?_⟩
           refine zdv 45 (fun _ => xpt) ?_
           refine zdv 46 (fun _ => xas) ?_
           refine zdd <| ztn <| zrt <| zf1 ⟨_, rfl, ?_⟩
           exact ⟨(true_B (by first | exact hs4 | exact hs3 | exact hs2 | exact hs1 | exact hdd | omega)).symm, hS.nl⟩
          ·
           refine zdof 42 ?_
           refine zdof 43 ?_
           refine zdof 44 ?_
           refine zdv 45 (fun _ => xpf) ?_
           refine zdv 46 (fun _ => xas) ?_
           refine zdd <| ztn <| zrt <| zf1 ⟨_, rfl, ?_⟩
           exfalso
           first | omega | exact absurd hdd ‹_› | exact absurd hs1 ‹_› | exact absurd hs2 ‹_› | exact absurd hs3 ‹_› | exact absurd hs4 ‹_›
         ·
          refine zdof 37 ?_
          refine zdof 38 ?_
          refine zdof 39 ?_
          refine zdv 40 (fun _ => xpf) ?_
          refine zdv 41 (fun _ => xmv) ?_
          refine zdof 42 ?_
          refine zdof 43 ?_
          refine zdof 44 ?_
          refine zdv 45 (fun _ => xpf) ?_
          refine zdv 46 (fun _ => xas) ?_
          refine zdd <| ztn <| zrt <| zf1 ⟨_, rfl, ?_⟩
          exfalso
          first | omega | exact absurd hdd ‹_› | exact absurd hs1 ‹_› | exact absurd hs2 ‹_› | exact absurd hs3 ‹_› | exact absurd hs4 ‹_›
        ·
         refine zdof 32 ?_
         refine zdof 33 ?_
         refine zdof 34 ?_
         refine zdv 35 (fun _ => xpf) ?_
         refine zdv 36 (fun _ => xmv) ?_
         refine zdof 37 ?_
         refine zdof 38 ?_
         refine zdof 39 ?_
         refine zdv 40 (fun _ => xpf) ?_
         refine zdv 41 (fun _ => xmv) ?_
         refine zdof 42 ?_
         refine zdof 43 ?_
         refine zdof 44 ?_
         refine zdv 45 (fun _ => xpf) ?_
         refine zdv 46 (fun _ => xas) ?_
         refine zdd <| ztn <| zrt <| zf1 ⟨_, rfl, ?_⟩
         exfalso
         first | omega | exact absurd hdd ‹_› | exact absurd hs1 ‹_› | exact absurd hs2 ‹_› | exact absurd hs3 ‹_› | exact absurd hs4 ‹_›
       ·
        refine zdof 27 ?_
        refine zdof 28 ?_
        refine zdof 29 ?_
        refine zdv 30 (fun _ => xpf) ?_
        refine zdv 31 (fun _ => xmv) ?_
        refine zdof 32 ?_
        refine zdof 33 ?_
        refine zdof 34 ?_
        refine zdv 35 (fun _ => xpf) ?_
        refine zdv 36 (fun _ => xmv) ?_
        refine zdof 37 ?_
        refine zdof 38 ?_
        refine zdof 39 ?_
        refine zdv 40 (fun _ => xpf) ?_
        refine zdv 41 (fun _ => xmv) ?_
        refine zdof 42 ?_
        refine zdof 43 ?_
        refine zdof 44 ?_
        refine zdv 45 (fun _ => xpf) ?_
        refine zdv 46 (fun _ => xas) ?_
        refine zdd <| ztn <| zrt <| zf1 ⟨_, rfl, ?_⟩
        exfalso
        first | omega | exact absurd hdd ‹_› | exact absurd hs1 ‹_› | exact absurd hs2 ‹_› | exact absurd hs3 ‹_› | exact absurd hs4 ‹_›
      ·
       refine zdof 22 ?_
       refine zdof 23 ?_
       refine zdof 24 ?_
       refine zdv 25 (fun _ => xpf) ?_
       refine zdv 26 (fun _ => xmv) ?_
       refine zdof 27 ?_
       refine zdof 28 ?_
       refine zdof 29 ?_
       refine zdv 30 (fun _ => xpf) ?_
       refine zdv 31 (fun _ => xmv) ?_
       refine zdof 32 ?_
       refine zdof 33 ?_
       refine zdof 34 ?_
       refine zdv 35 (fun _ => xpf) ?_
       refine zdv 36 (fun _ => xmv) ?_
       refine zdof 37 ?_
       refine zdof 38 ?_
       refine zdof 39 ?_
       refine zdv 40 (fun _ => xpf) ?_
       refine zdv 41 (fun _ => xmv) ?_
       refine zdof 42 ?_
       refine zdof 43 ?_
       refine zdof 44 ?_
       refine zdv 45 (fun _ => xpf) ?_
       refine zdv 46 (fun _ => xas) ?_
       refine zdd <| ztn <| zrt <| zf1 ⟨_, rfl, ?_⟩
       exfalso
       first | omega | exact absurd hdd ‹_› | exact absurd hs1 ‹_› | exact absurd hs2 ‹_› | exact absurd hs3 ‹_› | exact absurd hs4 ‹_›
     ·
      refine zdof 17 ?_
      refine zdof 18 ?_
      refine zdof 19 ?_
      refine zdv 20 (fun _ => xpf) ?_
      refine zdv 21 (fun _ => xmv) ?_
      refine zdof 22 ?_
      refine zdof 23 ?_
      refine zdof 24 ?_
      refine zdv 25 (fun _ => xpf) ?_
      refine zdv 26 (fun _ => xmv) ?_
      refine zdof 27 ?_
      refine zdof 28 ?_
      refine zdof 29 ?_
      refine zdv 30 (fun _ => xpf) ?_
      refine zdv 31 (fun _ => xmv) ?_
      refine zdof 32 ?_
      refine zdof 33 ?_
      refine zdof 34 ?_
      refine zdv 35 (fun _ => xpf) ?_
      refine zdv 36 (fun _ => xmv) ?_
      refine zdof 37 ?_
      refine zdof 38 ?_
      refine zdof 39 ?_
      refine zdv 40 (fun _ => xpf) ?_
      refine zdv 41 (fun _ => xmv) ?_
      refine zdof 42 ?_
      refine zdof 43 ?_
      refine zdof 44 ?_
      refine zdv 45 (fun _ => xpf) ?_
      refine zdv 46 (fun _ => xas) ?_
      refine zdd <| ztn <| zrt <| zf1 ⟨_, rfl, ?_⟩
      exfalso
      first | omega | exact absurd hdd ‹_› | exact absurd hs1 ‹_› | exact absurd hs2 ‹_› | exact absurd hs3 ‹_› | exact absurd hs4 ‹_›
    ·
     refine zdof 12 ?_
     refine zdof 13 ?_
     refine zdof 14 ?_
     refine zdv 15 (fun _ => xpf) ?_
     refine zdv 16 (fun _ => xmv) ?_
     refine zdof 17 ?_
     refine zdof 18 ?_
     refine zdof 19 ?_
     refine zdv 20 (fun _ => xpf) ?_
     refine zdv 21 (fun _ => xmv) ?_
     refine zdof 22 ?_
     refine zdof 23 ?_
     refine zdof 24 ?_
     refine zdv 25 (fun _ => xpf) ?_
     refine zdv 26 (fun _ => xmv) ?_
     refine zdof 27 ?_
     refine zdof 28 ?_
     refine zdof 29 ?_
     refine zdv 30 (fun _ => xpf) ?_
     refine zdv 31 (fun _ => xmv) ?_
     refine zdof 32 ?_
     refine zdof 33 ?_
     refine zdof 34 ?_
     refine zdv 35 (fun _ => xpf) ?_
     refine zdv 36 (fun _ => xmv) ?_
     refine zdof 37 ?_
     refine zdof 38 ?_
     refine zdof 39 ?_
     refine zdv 40 (fun _ => xpf) ?_
     refine zdv 41 (fun _ => xmv) ?_
     refine zdof 42 ?_
     refine zdof 43 ?_
     refine zdof 44 ?_
     refine zdv 45 (fun _ => xpf) ?_
     refine zdv 46 (fun _ => xas) ?_
     refine zdd <| ztn <| zrt <| zf1 ⟨_, rfl, ?_⟩
     exfalso
     first | omega | exact absurd hdd ‹_› | exact absurd hs1 ‹_› | exact absurd hs2 ‹_› | exact absurd hs3 ‹_› | exact absurd hs4 ‹_›
   ·
    refine zdof 7 ?_
    refine zdof 8 ?_
    refine zdof 9 ?_
    refine zdv 10 (fun _ => xpf) ?_
    refine zdv 11 (fun _ => xmv) ?_
    refine zdof 12 ?_
    refine zdof 13 ?_
    refine zdof 14 ?_
    refine zdv 15 (fun _ => xpf) ?_
    refine zdv 16 (fun _ => xmv) ?_
    refine zdof 17 ?_
    refine zdof 18 ?_
    refine zdof 19 ?_
    refine zdv 20 (fun _ => xpf) ?_
    refine zdv 21 (fun _ => xmv) ?_
    refine zdof 22 ?_
    refine zdof 23 ?_
    refine zdof 24 ?_
    refine zdv 25 (fun _ => xpf) ?_
    refine zdv 26 (fun _ => xmv) ?_
    refine zdof 27 ?_
    refine zdof 28 ?_
    refine zdof 29 ?_
    refine zdv 30 (fun _ => xpf) ?_
    refine zdv 31 (fun _ => xmv) ?_
    refine zdof 32 ?_
    refine zdof 33 ?_
    refine zdof 34 ?_
    refine zdv 35 (fun _ => xpf) ?_
    refine zdv 36 (fun _ => xmv) ?_
    refine zdof 37 ?_
    refine zdof 38 ?_
    refine zdof 39 ?_
    refine zdv 40 (fun _ => xpf) ?_
    refine zdv 41 (fun _ => xmv) ?_
    refine zdof 42 ?_
    refine zdof 43 ?_
    refine zdof 44 ?_
    refine zdv 45 (fun _ => xpf) ?_
    refine zdv 46 (fun _ => xas) ?_
    refine zdd <| ztn <| zrt <| zf1 ⟨_, rfl, ?_⟩
    exfalso
    first | omega | exact absurd hdd ‹_› | exact absurd hs1 ‹_› | exact absurd hs2 ‹_› | exact absurd hs3 ‹_› | exact absurd hs4 ‹_›

end Go.Proofs.Ytakgjpmhbfieeaa
