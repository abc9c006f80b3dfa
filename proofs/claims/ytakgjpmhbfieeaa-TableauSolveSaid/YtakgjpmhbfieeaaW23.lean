/- The walk of TableauInverse. -/
import Derived.Test.YtakgjpmhbfieeaaGc
import Derived.Test.YtakgjpmhbfieeaaW22
import Derived.Test.YtakgjpmhbfieeaaFi
namespace Go.Proofs.Ytakgjpmhbfieeaa
open Go Go.RowKit Go.Proofs.Gw
set_option linter.unusedVariables false

theorem cl_22 : calledT Try.prog 22 = true := by kernel_rfl
theorem cl_23 : calledT Try.prog 23 = true := by kernel_rfl
theorem cl_24 : calledT Try.prog 24 = true := by kernel_rfl
theorem fd_50_0 : fieldT Try.prog 50 0 = some 0 := by kernel_rfl
theorem fd_50_1 : fieldT Try.prog 50 1 = some 1 := by kernel_rfl
theorem inverse_law {t t1 t2 : Tb} {row col e e2 : Int} (h1 : PivR t row col t1 e) (h2 : PivR t1 row col t2 e2) (he : e = 0) : e2 = 0 ∧ SameT t2 t := by
  rcases h1 with ⟨_, _, h⟩ | ⟨_, _, _, h⟩ | ⟨_, _, _, _, h⟩ | ⟨ha, hd, hu, rfl, _⟩
  · omega
  · omega
  · omega
  · obtain ⟨ha', hd', hu', k1, k2, k3, k4⟩ := piv_piv ha hd hu
    obtain ⟨rfl, rfl⟩ := h2.same (.inr (.inr (.inr ⟨ha', hd', hu', rfl, rfl⟩)))
    have hc := ha.1.c
    refine ⟨rfl, rfl, k1, ⟨rfl, fun k _ _ => by rw [k2]⟩, ⟨rfl, fun k _ _ => by rw [k3]⟩, rfl, fun i i0 i1 => ⟨rfl, fun j j0 j1 => ?_⟩⟩
    have i2 : i < t.nc := i1
    have j2 : j < t.ln i := j1
    have hr := (ha.1.rows i i0 i2).1
    exact k4 i j i0 (by omega) j0 (by omega)
theorem PivR.zero {t t1 : Tb} {row col e : Int} (h1 : PivR t row col t1 e) (he : e ≠ 0) : t1 = Tb.zero := by
  rcases h1 with ⟨_, h, _⟩ | ⟨_, _, h, _⟩ | ⟨_, _, _, h, _⟩ | ⟨_, _, _, _, h⟩
  · exact h
  · exact h
  · exact h
  · exact absurd h he

set_option maxRecDepth 20000 in
theorem law_inverse {vB vF vC : Value} {vv : Int → Value} {t : Tb} {row col : Int} (w0 : World) (hT : TAt w0 vB vF vC vv t) (hrow0 : -9223372036854775808 ≤ row ∧ row ≤ 9223372036854775807) (hcol0 : -9223372036854775808 ≤ col ∧ col ≤ 9223372036854775807) :
    Calls Try.prog 5 [.agg #[.int .i64 t.vars, .int .i64 t.den, vB, vF, vC], .agg #[.int .i64 row, .int .i64 col]].toArray w0 fun e w => ∃ v, e = .returned v ∧ v = .bool true ∧ Sat w0 w [] := by
  have hn := hT.F.slh.n0; have hn1 := hT.F.slh.n1; have hb := hT.B.slh.n0; have hb1 := hT.B.slh.n1; have hc0 := hT.C.row.slh.n0; have hc1 := hT.C.row.slh.n1
  refine zenG Try.func5 Try.ntmps5 fun w hS => ?_
  refine zsq <| zrg ?_
  refine zla (xbx (cs := [_, _, _, _, _]) hS) ?_; rintro _ w ⟨g1, rfl, hS⟩
  replace hS : Sat w0 w [.blk _ [_, _, _, _, _]] := hS
  refine zla (xbx (cs := [_, _]) hS) ?_; rintro _ w ⟨g2, rfl, hS⟩
  replace hS : Sat w0 w [.blk _ [_, _, _, _, _], .blk _ [_, _]] := hS
  refine zlv xas ?_
  refine zln <| ztn <| zsq <| zsq <| zrg ?_
  refine zlc (xc0 cl_12) (c_awake w) ?_; rintro _ w ⟨rfl, hS'⟩
  replace hS := hS.cmp hS'; clear hS'
  refine zlv xnt ?_
  refine zlv xmv ?_
  refine zlv (xls 0 st_48 hS) ?_
  refine zlc (xc0 cl_22) (c_little (t := t) w (hT.below hS.below)) ?_; rintro _ w ⟨rfl, hS'⟩
  replace hS := hS.cmp hS'; clear hS'
  refine zlv xnot ?_
  refine zlv xpf ?_
  refine zlv xmv ?_
  refine zlb 16 ?_ ?_ <;> intro hc
  ·
   iterate 3 refine zlo ?_
   refine zlv xpt ?_
   refine zln <| ztn <| zct <| zsq <| zrg ?_
   refine zlc (xc0 cl_12) (c_awake w) ?_; rintro _ w ⟨rfl, hS'⟩
   replace hS := hS.cmp hS'; clear hS'
   refine zlv xas ?_
   refine zln <| ztn <| zrt <| ztr <| zf1 ⟨_, rfl, ?_⟩
   exact ⟨rfl, hS.nl⟩
  ·
   refine zlv (xls 0 st_48 hS) ?_
   refine zlc (xc0 cl_23) (c_rproper (t := t) w (hT.below hS.below)) ?_; rintro _ w ⟨rfl, hS'⟩
   replace hS := hS.cmp hS'; clear hS'
   refine zlv xnot ?_
   refine zlv xpf ?_
   refine zln <| ztn ?_
   refine zcif ?_ ?_ <;> intro hc
   ·
    refine zsq <| zrg ?_
    refine zlc (xc0 cl_12) (c_awake w) ?_; rintro _ w ⟨rfl, hS'⟩
    replace hS := hS.cmp hS'; clear hS'
    refine zlv xas ?_
    refine zln <| ztn <| zrt <| ztr <| zf1 ⟨_, rfl, ?_⟩
    exact ⟨rfl, hS.nl⟩
   ·
    refine zsk <| ztn <| zsq <| zrg ?_
    refine zlv (xls 0 st_48 hS) ?_
    refine zlv (xfb 0 fd_50_0) ?_
    refine zlv (xlb 1 pl_3 hS) ?_
    refine zlv (xfb 1 fd_50_1) ?_
    refine zlv (xlb 1 pl_3 hS) ?_
    refine zlc (xc0 cl_21) (c_pivot (t := t) (row := row) (col := col) w (hT.below hS.below) (by omega) (by omega)) ?_; rintro _ w ⟨vBk1, vFk1, vCk1, vvk1, tk1, ek1, rfl, hpvk1, hsBk1, hsFk1, hsCk1, hS'⟩
    replace hS : Sat w0 w [.blk g1 [.int .i64 t.vars, .int .i64 t.den, vB, vF, vC], .blk g2 [.int .i64 row, .int .i64 col], .own vBk1 1 3 tk1.nb (ints tk1.B), .own vFk1 1 3 tk1.nf (ints tk1.F), .own vCk1 1 22 tk1.nc vvk1, .sem (Frame.rows 3 tk1.nc vvk1 tk1.ln tk1.C)] := hS.comp hS'; clear hS'
    have hrsk1 := fun k (k0 : 0 ≤ k) (k1 : k < tk1.nc) => hS.slhIn 5 rfl k0 k1
    refine zlv xmv ?_
    iterate 2 refine zlv xex ?_
    refine zla (xal (cs := [_, _, _, _, _]) el_43 hS) ?_; rintro _ w ⟨g3, rfl, hS⟩
    replace hS : Sat w0 w [.blk _ [_, _, _, _, _], .blk _ [_, _], _, _, _, _, .blk _ [_, _, _, _, _]] := hS
    refine zle (xsw 6 st_43 hS (hd := (ones_cons rfl (ones_cons rfl (ones_cons hsBk1.one (ones_cons hsFk1.one (ones_cons hsCk1.one ones_nil))))))) ?_; clear hS; rintro w hS
    replace hS : Sat w0 w [.blk _ [_, _, _, _, _], .blk _ [_, _], _, _, _, _, .blk _ [_, _, _, _, _]] := hS
    refine zlv xas ?_
    refine zln <| ztn <| zsq <| zsq <| zrg ?_
    refine zlv xmv ?_
    refine zlv xneq ?_
    refine zln <| ztn ?_
    refine zcif ?_ ?_ <;> intro hc
    ·
     refine zsq <| zrg ?_
     refine zlv (xfb 4 fd_43_4) ?_
     refine zlv (xlb 6 pl_23 hS) ?_
     refine zlv (xln sl_23 hsCk1) ?_
     refine zlv xeql ?_
     refine zlv xas ?_
     refine zln <| ztn <| zrt <| ztr <| zf1 ⟨_, rfl, ?_⟩
     have hz := PivR.zero hpvk1 (by omega)
     exact ⟨(true_B (by rw [hz]; rfl)).symm, hS.nl⟩
    ·
     refine zsk <| ztn <| zsq <| zrg ?_
     refine zlv (xls 6 st_43 hS) ?_
     refine zlv (xfb 0 fd_50_0) ?_
     refine zlv (xlb 1 pl_3 hS) ?_
     refine zlv (xfb 1 fd_50_1) ?_
     refine zlv (xlb 1 pl_3 hS) ?_
     refine zlc (xc0 cl_21) (c_pivot (t := tk1) (row := row) (col := col) w (⟨(hS.rowN 2 rfl), (hS.rowN 3 rfl), (⟨(hS.rowN 4 rfl), fun k k0 k1 => hS.rowIn 5 rfl k0 k1, fun k k0 k1 => hS.roomIn 5 rfl k0 k1⟩ : MAt _ vCk1 tk1.nc vvk1 tk1.ln tk1.C)⟩ : TAt _ vBk1 vFk1 vCk1 vvk1 tk1) (by omega) (by omega)) ?_; rintro _ w ⟨vBk2, vFk2, vCk2, vvk2, tk2, ek2, rfl, hpvk2, hsBk2, hsFk2, hsCk2, hS'⟩
     replace hS : Sat w0 w [.blk g1 [.int .i64 t.vars, .int .i64 t.den, vB, vF, vC], .blk g2 [.int .i64 row, .int .i64 col], .own vBk1 1 3 tk1.nb (ints tk1.B), .own vFk1 1 3 tk1.nf (ints tk1.F), .own vCk1 1 22 tk1.nc vvk1, .sem (Frame.rows 3 tk1.nc vvk1 tk1.ln tk1.C), .blk g3 [.int .i64 tk1.vars, .int .i64 tk1.den, vBk1, vFk1, vCk1], .own vBk2 1 3 tk2.nb (ints tk2.B), .own vFk2 1 3 tk2.nf (ints tk2.F), .own vCk2 1 22 tk2.nc vvk2, .sem (Frame.rows 3 tk2.nc vvk2 tk2.ln tk2.C)] := hS.comp hS'; clear hS'
     have hrsk2 := fun k (k0 : 0 ≤ k) (k1 : k < tk2.nc) => hS.slhIn 10 rfl k0 k1
     refine zlv xmv ?_
     refine zlv xex ?_
     have hil := inverse_law hpvk1 hpvk2 (by omega)
     refine zlv xex ?_
     refine zla (xal (cs := [_, _, _, _, _]) el_43 hS) ?_; rintro _ w ⟨g4, rfl, hS⟩
     replace hS : Sat w0 w [.blk _ [_, _, _, _, _], .blk _ [_, _], _, _, _, _, .blk _ [_, _, _, _, _], _, _, _, _, .blk _ [_, _, _, _, _]] := hS
     refine zle (xsw 11 st_43 hS (hd := (ones_cons rfl (ones_cons rfl (ones_cons hsBk2.one (ones_cons hsFk2.one (ones_cons hsCk2.one ones_nil))))))) ?_; clear hS; rintro w hS
     replace hS : Sat w0 w [.blk _ [_, _, _, _, _], .blk _ [_, _], _, _, _, _, .blk _ [_, _, _, _, _], _, _, _, _, .blk _ [_, _, _, _, _]] := hS
     refine zlv xas ?_
     refine zln <| ztn <| zsq <| zrg ?_
     refine zlv xmv ?_
     refine zlv xeql ?_
     refine zlv xmv ?_
     refine zlb 48 ?_ ?_ <;> intro hc
     ·
      refine zlv (xls 11 st_43 hS) ?_
      refine zlv (xls 0 st_48 hS) ?_
      refine zlc (xc0 cl_24) (c_same (t := tk2) (u := t) w (⟨(hS.rowN 7 rfl), (hS.rowN 8 rfl), (⟨(hS.rowN 9 rfl), fun k k0 k1 => hS.rowIn 10 rfl k0 k1, fun k k0 k1 => hS.roomIn 10 rfl k0 k1⟩ : MAt _ vCk2 tk2.nc vvk2 tk2.ln tk2.C)⟩ : TAt _ vBk2 vFk2 vCk2 vvk2 tk2) (hT.below hS.below)) ?_; rintro _ w ⟨rfl, hS'⟩
      replace hS := hS.cmp hS'; clear hS'
      refine zlv xpt ?_
      refine zlv xas ?_
      refine zln <| ztn <| zrt <| zf1 ⟨_, rfl, ?_⟩
      exact ⟨(true_B (by first | exact hil.2 | exact hil.1)).symm, hS.nl⟩
     ·
      iterate 3 refine zlo ?_
      refine zlv xpf ?_
      refine zlv xas ?_
      refine zln <| ztn <| zrt <| zf1 ⟨_, rfl, ?_⟩
      exact absurd hil.1 ‹_›

end Go.Proofs.Ytakgjpmhbfieeaa
