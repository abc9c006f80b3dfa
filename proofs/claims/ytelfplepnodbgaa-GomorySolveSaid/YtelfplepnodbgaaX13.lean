/- The walk of GomorySolve. -/
import Derived.Test.YtelfplepnodbgaaGc
import Derived.Test.YtelfplepnodbgaaX12
import Derived.Test.YtelfplepnodbgaaX11
namespace Go.Proofs.Ytelfplepnodbgaa
open Go Go.RowKit Go.Proofs.Gw
set_option linter.unusedVariables false

theorem cl_24 : calledT Try.prog 24 = true := by kernel_rfl
theorem cl_30 : calledT Try.prog 30 = true := by kernel_rfl
theorem cl_31 : calledT Try.prog 31 = true := by kernel_rfl
theorem cl_32 : calledT Try.prog 32 = true := by kernel_rfl
set_option maxRecDepth 20000 in
theorem law_gsolve {vc vA vb : Value} {vq : Int → Value} {p : Lp} {most : Int} (w0 : World) (hL : LAt w0 vc vA vb vq p) (hmost0 : -9223372036854775808 ≤ most ∧ most ≤ 9223372036854775807) :
    Calls Try.prog 5 [.agg #[vc, vA, vb], .int .i64 most].toArray w0 fun e w => ∃ v, e = .returned v ∧ v = .bool true ∧ Sat w0 w [] := by
  have hn := hL.c.slh.n0; have hn1 := hL.c.slh.n1; have hm := hL.A.row.slh.n0; have hm1 := hL.A.row.slh.n1; have hk := hL.b.slh.n0; have hk1 := hL.b.slh.n1
  refine zenG Try.func5 Try.ntmps5 fun w hS => ?_
  refine zsq <| zrg ?_
  refine zla (xbx (cs := [_, _, _]) hS) ?_; rintro _ w ⟨g1, rfl, hS⟩
  replace hS : Sat w0 w [.blk _ [_, _, _]] := hS
  refine zlv xas ?_
  refine zln <| ztn <| zsq <| zsq <| zrg ?_
  refine zlc (xc0 cl_14) (c_gawake w) ?_; rintro _ w ⟨rfl, hS'⟩
  replace hS := hS.cmp hS'; clear hS'
  refine zlv xnt ?_
  refine zlv xmv ?_
  refine zlv (xls 0 st_44 hS) ?_
  refine zlc (xc0 cl_24) (c_few (p := p) w (hL.below hS.below)) ?_; rintro _ w ⟨rfl, hS'⟩
  replace hS := hS.cmp hS'; clear hS'
  refine zlv xnot ?_
  refine zlv xpf ?_
  refine zln <| ztn ?_
  refine zcif ?_ ?_ <;> intro hc
  ·
   refine zsq <| zrg ?_
   refine zlc (xc0 cl_14) (c_gawake w) ?_; rintro _ w ⟨rfl, hS'⟩
   replace hS := hS.cmp hS'; clear hS'
   refine zlv xas ?_
   refine zln <| ztn <| zrt <| ztr <| zf1 ⟨_, rfl, ?_⟩
   exact ⟨rfl, hS.nl⟩
  ·
   refine zsk <| ztn <| zsq <| zrg ?_
   refine zlv (xls 0 st_44 hS) ?_
   refine zlc (xc0 cl_29) (c_gsolve (p := p) w (hL.below hS.below)) ?_; rintro _ w ⟨xry1, xny1, xfy1, vay1, cuy1, ey1, rfl, hgsy1, hxry1, hS'⟩
   replace hS : Sat w0 w [.blk g1 [vc, vA, vb], .own xry1 1 3 xny1 (ints xfy1)] := hS.comp hS'; clear hS'
   refine zlv xmv ?_
   iterate 4 refine zlv xex ?_
   iterate 4 refine zlv xas ?_
   refine zln <| ztn <| zsq <| zrg ?_
   refine zlv (xls 0 st_44 hS) ?_
   refine zlc (xc0 cl_30) (c_rgsolve (p := p) w (hL.below hS.below)) ?_; rintro _ w ⟨xry2, xny2, xfy2, vay2, cuy2, ey2, rfl, hrgy2, hxry2, hS'⟩
   replace hS : Sat w0 w [.blk g1 [vc, vA, vb], .own xry1 1 3 xny1 (ints xfy1), .own xry2 1 3 xny2 (ints xfy2)] := hS.comp hS'; clear hS'
   refine zlv xmv ?_
   iterate 4 refine zlv xex ?_
   iterate 4 refine zlv xas ?_
   refine zln <| ztn <| zsq <| zrg ?_
   refine zlv (xls 0 st_44 hS) ?_
   refine zlv xmv ?_
   refine zlc (xc0 cl_31) (c_bounds (p := p) (most := most) w (hL.below hS.below) (by omega)) ?_; rintro _ w ⟨xry3, xny3, xfy3, ey3, rfl, hgby3, hxry3, hS'⟩
   replace hS : Sat w0 w [.blk g1 [vc, vA, vb], .own xry1 1 3 xny1 (ints xfy1), .own xry2 1 3 xny2 (ints xfy2), .own xry3 1 3 xny3 (ints xfy3)] := hS.comp hS'; clear hS'
   refine zlv xmv ?_
   iterate 2 refine zlv xex ?_
   iterate 2 refine zlv xas ?_
   refine zln <| ztn <| zsq <| zrg ?_
   refine zlv (xls 0 st_44 hS) ?_
   refine zlv xmv ?_
   refine zlc (xc0 cl_32) (c_rbounds (p := p) (most := most) w (hL.below hS.below) (by omega)) ?_; rintro _ w ⟨xry4, xny4, xfy4, ey4, rfl, hrby4, hxry4, hS'⟩
   replace hS : Sat w0 w [.blk g1 [vc, vA, vb], .own xry1 1 3 xny1 (ints xfy1), .own xry2 1 3 xny2 (ints xfy2), .own xry3 1 3 xny3 (ints xfy3), .own xry4 1 3 xny4 (ints xfy4)] := hS.comp hS'; clear hS'
   refine zlv xmv ?_
   iterate 2 refine zlv xex ?_
   iterate 2 refine zlv xas ?_
   refine zln <| ztn <| zsq <| zrg ?_
   refine zlv xmv ?_
   obtain ⟨q1, q2, q3, q4, q5⟩ := hgsy1.same hm hrgy2
   obtain ⟨q6, q7, q8⟩ := BoundsR.same hm hgby3 hrby4
   have hs1 : xny1 = xny2 ∧ ∀ k, 0 ≤ k → k < xny1 → xfy1 k = xfy2 k := ⟨q1, q2⟩
   have hs2 : xny3 = xny4 ∧ ∀ k, 0 ≤ k → k < xny3 → xfy3 k = xfy4 k := ⟨q6, q7⟩
   refine zlv xmv ?_
   refine zlc (xc0 cl_22) (c_same0 (n := xny1) (m := xny2) (f := xfy1) (g := xfy2) w (hS.rowN 1 rfl) (hS.rowN 2 rfl)) ?_; rintro _ w ⟨rfl, hS'⟩
   replace hS := hS.cmp hS'; clear hS'
   refine zlv xmv ?_
   refine zlb 54 ?_ ?_ <;> intro hc
   ·
    iterate 2 refine zlv xmv ?_
    refine zlv xeql ?_
    refine zlv xpt ?_
    refine zlv xmv ?_
    refine zlb 59 ?_ ?_ <;> intro hc
    ·
     iterate 2 refine zlv xmv ?_
     refine zlv xeql ?_
     refine zlv xpt ?_
     refine zlv xmv ?_
     refine zlb 64 ?_ ?_ <;> intro hc
     ·
      iterate 2 refine zlv xmv ?_
      refine zlv xeql ?_
      refine zlv xpt ?_
      refine zlv xmv ?_
      refine zlb 69 ?_ ?_ <;> intro hc
      ·
       iterate 2 refine zlv xmv ?_
       refine zlc (xc0 cl_22) (c_same0 (n := xny3) (m := xny4) (f := xfy3) (g := xfy4) w (hS.rowN 3 rfl) (hS.rowN 4 rfl)) ?_; rintro _ w ⟨rfl, hS'⟩
       replace hS := hS.cmp hS'; clear hS'
       refine zlv xpt ?_
       refine zlv xmv ?_
       refine zlb 74 ?_ ?_ <;> intro hc
       ·
        iterate 2 refine zlv xmv ?_
        refine zlv xeql ?_
        refine zlv xpt ?_
        refine zlv xas ?_
        refine zln <| ztn <| zrt <| zf1 ⟨_, rfl, ?_⟩
        exact ⟨(true_B (by first | exact hs1 | exact hs2 | omega)).symm, hS.nl⟩
       ·
        iterate 3 refine zlo ?_
        refine zlv xpf ?_
        refine zlv xas ?_
        refine zln <| ztn <| zrt <| zf1 ⟨_, rfl, ?_⟩
        exfalso
        first | omega | exact absurd hs1 ‹_› | exact absurd hs2 ‹_›
      ·
       iterate 3 refine zlo ?_
       refine zlv xpf ?_
       refine zlv xmv ?_
       iterate 3 refine zlo ?_
       refine zlv xpf ?_
       refine zlv xas ?_
       refine zln <| ztn <| zrt <| zf1 ⟨_, rfl, ?_⟩
       exfalso
       first | omega | exact absurd hs1 ‹_› | exact absurd hs2 ‹_›
     ·
      iterate 3 refine zlo ?_
      refine zlv xpf ?_
      refine zlv xmv ?_
      iterate 3 refine zlo ?_
      refine zlv xpf ?_
      refine zlv xmv ?_
      iterate 3 refine zlo ?_
      refine zlv xpf ?_
      refine zlv xas ?_
      refine zln <| ztn <| zrt <| zf1 ⟨_, rfl, ?_⟩
      exfalso
      first | omega | exact absurd hs1 ‹_› | exact absurd hs2 ‹_›
    ·
     iterate 3 refine zlo ?_
     refine zlv xpf ?_
     refine zlv xmv ?_
     iterate 3 refine zlo ?_
     refine zlv xpf ?_
     refine zlv xmv ?_
     iterate 3 refine zlo ?_
     refine zlv xpf ?_
     refine zlv xmv ?_
     iterate 3 refine zlo ?_
     refine zlv xpf ?_
     refine zlv xas ?_
     refine zln <| ztn <| zrt <| zf1 ⟨_, rfl, ?_⟩
     exfalso
     first | omega | exact absurd hs1 ‹_› | exact absurd hs2 ‹_›
   ·
    iterate 3 refine zlo ?_
    refine zlv xpf ?_
    refine zlv xmv ?_
    iterate 3 refine zlo ?_
    refine zlv xpf ?_
    refine zlv xmv ?_
    iterate 3 refine zlo ?_
    refine zlv xpf ?_
    refine zlv xmv ?_
    iterate 3 refine zlo ?_
    refine zlv xpf ?_
    refine zlv xmv ?_
    iterate 3 refine zlo ?_
    refine zlv xpf ?_
    refine zlv xas ?_
    refine zln <| ztn <| zrt <| zf1 ⟨_, rfl, ?_⟩
    exfalso
    first | omega | exact absurd hs1 ‹_› | exact absurd hs2 ‹_›

end Go.Proofs.Ytelfplepnodbgaa
