/- The walk of GomoryBest. -/
import Derived.Test.YtelfplepnodbgaaGc
import Derived.Test.YtelfplepnodbgaaX15
namespace Go.Proofs.Ytelfplepnodbgaa
open Go Go.RowKit Go.Proofs.Gw
set_option linter.unusedVariables false

theorem cl_27 : calledT Try.prog 27 = true := by kernel_rfl
set_option maxHeartbeats 4000000 in
set_option maxRecDepth 20000 in
theorem law_best {vc vA vb : Value} {vq : Int → Value} {p : Lp} {vu : Value} {mu : Int} {fu : Int → Int} (w0 : World) (hL : LAt w0 vc vA vb vq p) (hU : Row w0 vu 1 mu (fun k => .int .u8 (fu k))) (hub : ∀ k, 0 ≤ fu k ∧ fu k ≤ 255) :
    Calls Try.prog 6 [.agg #[vc, vA, vb], vu].toArray w0 fun e w => ∃ v, e = .returned v ∧ v = .bool true ∧ Sat w0 w [] := by
  have hn := hL.c.slh.n0; have hn1 := hL.c.slh.n1; have hm := hL.A.row.slh.n0; have hm1 := hL.A.row.slh.n1; have hk := hL.b.slh.n0; have hk1 := hL.b.slh.n1
  have hmu := hU.slh.n0; have hmu1 := hU.slh.n1
  refine zenG Try.func6 Try.ntmps6 fun w hS => ?_
  refine zsq <| zrg ?_
  refine zla (xbx (cs := [_, _, _]) hS) ?_; rintro _ w ⟨g1, rfl, hS⟩
  replace hS : Sat w0 w [.blk _ [_, _, _]] := hS
  refine zlv xas ?_
  refine zln <| ztn <| zsq <| zsq <| zrg ?_
  refine zlc (xc0 cl_14) (c_gawake w) ?_; rintro _ w ⟨rfl, hS'⟩
  replace hS := hS.cmp hS'; clear hS'
  refine zlv xnt ?_
  refine zlv xmv ?_
  refine zlv (xls 0 st_44 hS) ?_
  refine zlc (xc0 cl_24) (c_few (p := p) w (hL.below hS.below)) ?_; rintro _ w ⟨rfl, hS'⟩
  replace hS := hS.cmp hS'; clear hS'
  refine zlv xnot ?_
  refine zlv xpf ?_
  refine zlv xmv ?_
  refine zlb 28 ?_ ?_ <;> intro hc
  ·
   iterate 3 refine zlo ?_
   refine zlv xpt ?_
   refine zln <| ztn <| zct <| zsq <| zrg ?_
   refine zlc (xc0 cl_14) (c_gawake w) ?_; rintro _ w ⟨rfl, hS'⟩
   replace hS := hS.cmp hS'; clear hS'
   refine zlv xas ?_
   refine zln <| ztn <| zrt <| ztr <| zf1 ⟨_, rfl, ?_⟩
   exact ⟨rfl, hS.nl⟩
  ·
   refine zlv (xls 0 st_44 hS) ?_
   refine zlc (xc0 cl_25) (c_rvalid (p := p) w (hL.below hS.below)) ?_; rintro _ w ⟨rfl, hS'⟩
   replace hS := hS.cmp hS'; clear hS'
   refine zlv xnot ?_
   refine zlv xpf ?_
   refine zln <| ztn ?_
   refine zcif ?_ ?_ <;> intro hc
   ·
    refine zsq <| zrg ?_
    refine zlc (xc0 cl_14) (c_gawake w) ?_; rintro _ w ⟨rfl, hS'⟩
    replace hS := hS.cmp hS'; clear hS'
    refine zlv xas ?_
    refine zln <| ztn <| zrt <| ztr <| zf1 ⟨_, rfl, ?_⟩
    exact ⟨rfl, hS.nl⟩
   ·
    refine zsk <| ztn <| zsq <| zrg ?_
    refine zlv (xls 0 st_44 hS) ?_
    have hl : LOk p := by first | assumption | exact Classical.not_not.1 ‹¬ ¬ (LOk p)›
    have b1 := hl.n1; have b2 := hl.n2; have b3 := hl.m2; have b4 := hl.k
    have hfew : FewP p := by first | assumption | exact Classical.not_not.1 ‹_›
    have hf1 := hfew.2.1; have hf2 := hfew.2.2.1
    refine zlc (xc0 cl_29) (c_gsolve (p := p) w (hL.below hS.below)) ?_; rintro _ w ⟨xry1, xny1, xfy1, vay1, cuy1, ey1, rfl, hgsy1, hxry1, hS'⟩
    replace hS : Sat w0 w [.blk g1 [vc, vA, vb], .own xry1 1 3 xny1 (ints xfy1)] := hS.comp hS'; clear hS'
    refine zlv xmv ?_
    iterate 4 refine zlv xex ?_
    iterate 4 refine zlv xas ?_
    refine zln <| ztn <| zsq <| zrg ?_
    refine zlv (xls 0 st_44 hS) ?_
    refine zlv xmv ?_
    refine zlc (xc0 cl_27) (c_whole (p := p) w (hL.below hS.below) (hU.below hS.below) hub hl) ?_; rintro _ w ⟨wrz1, wnz1, wfz1, wcz1, wokz1, rfl, hwhz1, hwrz1, hS'⟩
    replace hS : Sat w0 w [.blk g1 [vc, vA, vb], .own xry1 1 3 xny1 (ints xfy1), .own wrz1 1 3 wnz1 (ints wfz1)] := hS.comp hS'; clear hS'
    refine zlv xmv ?_
    iterate 3 refine zlv xex ?_
    iterate 3 refine zlv xas ?_
    refine zln <| ztn <| zsq <| zrg ?_
    refine zlv (xls 0 st_44 hS) ?_
    refine zlc (xc0 cl_31) (c_bounds (p := p) (most := 8) w (hL.below hS.below) (by omega)) ?_; rintro _ w ⟨xry2, xny2, xfy2, ey2, rfl, hgby2, hxry2, hS'⟩
    replace hS : Sat w0 w [.blk g1 [vc, vA, vb], .own xry1 1 3 xny1 (ints xfy1), .own wrz1 1 3 wnz1 (ints wfz1), .own xry2 1 3 xny2 (ints xfy2)] := hS.comp hS'; clear hS'
    refine zlv xmv ?_
    iterate 2 refine zlv xex ?_
    iterate 2 refine zlv xas ?_
    refine zln <| ztn <| zsq <| zsq <| zrg ?_
    refine zlv xmv ?_
    refine zlv xeql ?_
    refine zln <| ztn ?_
    refine zcif ?_ ?_ <;> intro hc
    ·
     refine zsq <| zrg ?_
     refine zlv xmv ?_
     obtain ⟨hb1, hb2⟩ := bounds_law hm hl (by have h9 := hgby2; rwa [show ey2 = 0 by omega] at h9) (fun j _ _ => (whv_rng (mu := mu) hub j).1) hwhz1
     have hyn := hxry2.n0; have hyn1 := hxry2.n1
     refine zlv (xln sl_22 hxry2) ?_
     refine zlv xmv ?_
     refine zln <| ztn <| zbk <| zlp (fun mm M w => ∃ (i : Int), mm = ((xny2 - i).toNat) ∧ (0 ≤ i) ∧ (i ≤ xny2) ∧ M = [(2, .pointer (some ⟨g1, 0, none⟩)), (5, xry1), (6, .int .i64 vay1), (7, .int .i64 cuy1), (8, .int .i64 ey1), (10, .int .i64 wcz1), (11, B (wokz1)), (12, xry2), (13, .int .i64 ey2), (56, .int .i64 xny2), (57, .int .i64 i)] ∧ Sat w0 w [.blk g1 [vc, vA, vb], .own xry1 1 3 xny1 (ints xfy1), .own wrz1 1 3 wnz1 (ints wfz1), .own xry2 1 3 xny2 (ints xfy2)]) ⟨0, rfl, (by omega), (by omega), rfl, hS⟩ ?_
     ·
      clear hS w
      rintro mm M w ⟨i, rfl, i0, i1, rfl, hS⟩
      refine zsq <| zrg ?_
      refine zlv xlss ?_
      refine zln <| ztn <| zsq ?_
      refine zcif ?_ ?_ <;> intro hc
      ·
       refine zsk <| ztn <| zsq <| zbk <| zsq <| zrg ?_
       refine zlv xmv ?_
       refine zlv xas ?_
       refine zln <| ztn <| zsq ?_
       refine zdst [0, 1, 2, 3] [0, 1, 2, 3] 1000 mx_ hS ?_; clear hS; intro w hS
       refine zdv 0 (fun _ => xmv) ?_
       refine zdv 1 (fun _ => xgtr) ?_
       refine zdv 2 (fun _ => xmv) ?_
       refine zdb 62 ?_ ?_ <;> intro hc
       ·
        refine zdv 3 (fun _ => xmv) ?_
        refine zdv 4 (fun _ => xmv) ?_
        refine zdv 5 (fun _ => (xix (kk := i) sl_22 hxry2)) ?_
        refine zdla 6 (fun w hS => (xlr (u := .int .i64 (xfy2 i)) pl_3 (hS.rowN 3 rfl))) ?_
        refine zdv 7 (fun _ => xmv) ?_
        refine zdv 8 (fun _ => xmv) ?_
        refine zdv 9 (fun _ => (xsub (r := i - 1))) ?_
        refine zdv 10 (fun _ => (xix (kk := i - 1) sl_22 hxry2)) ?_
        refine zdla 11 (fun w hS => (xlr (u := .int .i64 (xfy2 (i - 1))) pl_3 (hS.rowN 3 rfl))) ?_
        refine zdv 12 (fun _ => xlss) ?_
        refine zdv 13 (fun _ => xpt) ?_
        refine zdv 14 (fun _ => xmv) ?_
        refine zdb 74 ?_ ?_ <;> intro hc
        ·
         refine zdof 15 ?_
         refine zdof 16 ?_
         refine zdof 17 ?_
         refine zdof 18 ?_
         refine zdof 19 ?_
         refine zdof 20 ?_
         refine zdof 21 ?_
         refine zdof 22 ?_
         refine zdof 23 ?_
         refine zdv 24 (fun _ => xpt) ?_
         refine zdd <| ztn <| zct <| zsq <| zrg ?_
         refine zlv xas ?_
         refine zln <| ztn <| zrt <| zbr <| ztr <| ztr <| zbr <| ztr <| zf1 ⟨_, rfl, ?_⟩
         exfalso
         first | omega | (have hb3 := hb2 i (by omega) (by omega); first | (have := hb3.1 (by omega); omega) | (have := hb3.2 (by first | assumption | exact Classical.not_not.1 ‹_›); omega)) | (have := c2 (by first | assumption | exact Classical.not_not.1 ‹_›); omega) | (have := c3 j (by omega) (by omega); omega) | (have h4 := c4 i2 (by omega) (by omega); rw [← hri, show p.ln i2 = k2 by omega] at h4; omega) | (obtain ⟨c7, c8⟩ := c6 (by omega); omega) | exact n4 (by omega) | exact absurd (n4 (by omega)) ‹_›
        ·
         refine zdv 15 (fun _ => xmv) ?_
         refine zdv 16 (fun _ => xmv) ?_
         refine zdb 76 ?_ ?_ <;> intro hc
         ·
          refine zdv 17 (fun _ => xmv) ?_
          refine zdv 18 (fun _ => xmv) ?_
          refine zdv 19 (fun _ => (xix (kk := i) sl_22 hxry2)) ?_
          refine zdla 20 (fun w hS => (xlr (u := .int .i64 (xfy2 i)) pl_3 (hS.rowN 3 rfl))) ?_
          refine zdv 21 (fun _ => xmv) ?_
          refine zdv 22 (fun _ => xgtr) ?_
          refine zdv 23 (fun _ => xpt) ?_
          refine zdv 24 (fun _ => xpf) ?_
          refine zdd <| ztn ?_
          refine zcif ?_ ?_ <;> intro hc
          ·
           refine zsq <| zrg ?_
           refine zlv xas ?_
           refine zln <| ztn <| zrt <| zbr <| ztr <| ztr <| zbr <| ztr <| zf1 ⟨_, rfl, ?_⟩
           exfalso
           first | omega | (have hb3 := hb2 i (by omega) (by omega); first | (have := hb3.1 (by omega); omega) | (have := hb3.2 (by first | assumption | exact Classical.not_not.1 ‹_›); omega)) | (have := c2 (by first | assumption | exact Classical.not_not.1 ‹_›); omega) | (have := c3 j (by omega) (by omega); omega) | (have h4 := c4 i2 (by omega) (by omega); rw [← hri, show p.ln i2 = k2 by omega] at h4; omega) | (obtain ⟨c7, c8⟩ := c6 (by omega); omega) | exact n4 (by omega) | exact absurd (n4 (by omega)) ‹_›
          ·
           refine zsk <| zbn <| ztn <| zrg ?_
           refine zlv (xadd (r := i + 1)) ?_
           refine zlv xmv ?_
           refine zln <| zlq ⟨i + 1, rfl, (by omega), (by omega), rfl, hS⟩
         ·
          refine zdof 17 ?_
          refine zdof 18 ?_
          refine zdof 19 ?_
          refine zdof 20 ?_
          refine zdof 21 ?_
          refine zdof 22 ?_
          refine zdv 23 (fun _ => xpf) ?_
          refine zdv 24 (fun _ => xpf) ?_
          refine zdd <| ztn <| zcf <| zsk <| zbn <| ztn <| zrg ?_
          refine zlv (xadd (r := i + 1)) ?_
          refine zlv xmv ?_
          refine zln <| zlq ⟨i + 1, rfl, (by omega), (by omega), rfl, hS⟩
       ·
        refine zdof 3 ?_
        refine zdof 4 ?_
        refine zdof 5 ?_
        refine zdof 6 ?_
        refine zdof 7 ?_
        refine zdof 8 ?_
        refine zdof 9 ?_
        refine zdof 10 ?_
        refine zdof 11 ?_
        refine zdof 12 ?_
        refine zdv 13 (fun _ => xpf) ?_
        refine zdv 14 (fun _ => xmv) ?_
        refine zdv 15 (fun _ => xmv) ?_
        refine zdv 16 (fun _ => xmv) ?_
        refine zdb 76 ?_ ?_ <;> intro hc
        ·
         refine zdv 17 (fun _ => xmv) ?_
         refine zdv 18 (fun _ => xmv) ?_
         refine zdv 19 (fun _ => (xix (kk := i) sl_22 hxry2)) ?_
         refine zdla 20 (fun w hS => (xlr (u := .int .i64 (xfy2 i)) pl_3 (hS.rowN 3 rfl))) ?_
         refine zdv 21 (fun _ => xmv) ?_
         refine zdv 22 (fun _ => xgtr) ?_
         refine zdv 23 (fun _ => xpt) ?_
         refine zdv 24 (fun _ => xpf) ?_
         refine zdd <| ztn ?_
         refine zcif ?_ ?_ <;> intro hc
         ·
          refine zsq <| zrg ?_
          refine zlv xas ?_
          refine zln <| ztn <| zrt <| zbr <| ztr <| ztr <| zbr <| ztr <| zf1 ⟨_, rfl, ?_⟩
          exfalso
          first | omega | (have hb3 := hb2 i (by omega) (by omega); first | (have := hb3.1 (by omega); omega) | (have := hb3.2 (by first | assumption | exact Classical.not_not.1 ‹_›); omega)) | (have := c2 (by first | assumption | exact Classical.not_not.1 ‹_›); omega) | (have := c3 j (by omega) (by omega); omega) | (have h4 := c4 i2 (by omega) (by omega); rw [← hri, show p.ln i2 = k2 by omega] at h4; omega) | (obtain ⟨c7, c8⟩ := c6 (by omega); omega) | exact n4 (by omega) | exact absurd (n4 (by omega)) ‹_›
         ·
          refine zsk <| zbn <| ztn <| zrg ?_
          refine zlv (xadd (r := i + 1)) ?_
          refine zlv xmv ?_
          refine zln <| zlq ⟨i + 1, rfl, (by omega), (by omega), rfl, hS⟩
        ·
         refine zdof 17 ?_
         refine zdof 18 ?_
         refine zdof 19 ?_
         refine zdof 20 ?_
         refine zdof 21 ?_
         refine zdof 22 ?_
         refine zdv 23 (fun _ => xpf) ?_
         refine zdv 24 (fun _ => xpf) ?_
         refine zdd <| ztn <| zcf <| zsk <| zbn <| ztn <| zrg ?_
         refine zlv (xadd (r := i + 1)) ?_
         refine zlv xmv ?_
         refine zln <| zlq ⟨i + 1, rfl, (by omega), (by omega), rfl, hS⟩
      ·
       refine zxt <| ztx <| ztx <| zbh <| ztn <| zsq <| zsq <| zrg ?_
       refine zlv xmv ?_
       refine zlv xneq ?_
       refine zln <| ztn ?_
       refine zcif ?_ ?_ <;> intro hc
       ·
        refine zsq <| zrg ?_
        refine zlv xmv ?_
        obtain ⟨n1, n2, n3, n4⟩ := best_none hm hl hgsy1 (by omega) (fun j _ _ => (whv_rng (mu := mu) hub j).1) hwhz1
        refine zlv (xln sl_22 hxry1) ?_
        refine zlv xeql ?_
        refine zlv xmv ?_
        refine zlb 91 ?_ ?_ <;> intro hc
        ·
         refine zlv xmv ?_
         refine zlv xeql ?_
         refine zlv xpt ?_
         refine zlv xmv ?_
         refine zlb 95 ?_ ?_ <;> intro hc
         ·
          refine zlv xmv ?_
          refine zlv xeql ?_
          refine zlv xpt ?_
          refine zlv xmv ?_
          refine zlb 99 ?_ ?_ <;> intro hc
          ·
           refine zlv xmv ?_
           refine zlv xneq ?_
           refine zlv xmv ?_
           refine zlb 102 ?_ ?_ <;> intro hc
           ·
            iterate 2 refine zlo ?_
            iterate 2 refine zlv xpt ?_
            refine zlv xas ?_
            refine zln <| ztn <| zrt <| ztr <| zf1 ⟨_, rfl, ?_⟩
            exact ⟨rfl, hS.nl⟩
           ·
            refine zlv xmv ?_
            refine zlv xnot ?_
            refine zlv xpf ?_
            refine zlv xpt ?_
            refine zlv xas ?_
            refine zln <| ztn <| zrt <| ztr <| zf1 ⟨_, rfl, ?_⟩
            exact ⟨(true_B (by first | omega | (have hb3 := hb2 i (by omega) (by omega); first | (have := hb3.1 (by omega); omega) | (have := hb3.2 (by first | assumption | exact Classical.not_not.1 ‹_›); omega)) | (have := c2 (by first | assumption | exact Classical.not_not.1 ‹_›); omega) | (have := c3 j (by omega) (by omega); omega) | (have h4 := c4 i2 (by omega) (by omega); rw [← hri, show p.ln i2 = k2 by omega] at h4; omega) | (obtain ⟨c7, c8⟩ := c6 (by omega); omega) | exact n4 (by omega) | exact absurd (n4 (by omega)) ‹_›)).symm, hS.nl⟩
          ·
           iterate 6 refine zlo ?_
           refine zlv xpf ?_
           refine zlv xas ?_
           refine zln <| ztn <| zrt <| ztr <| zf1 ⟨_, rfl, ?_⟩
           exfalso
           first | omega | (have hb3 := hb2 i (by omega) (by omega); first | (have := hb3.1 (by omega); omega) | (have := hb3.2 (by first | assumption | exact Classical.not_not.1 ‹_›); omega)) | (have := c2 (by first | assumption | exact Classical.not_not.1 ‹_›); omega) | (have := c3 j (by omega) (by omega); omega) | (have h4 := c4 i2 (by omega) (by omega); rw [← hri, show p.ln i2 = k2 by omega] at h4; omega) | (obtain ⟨c7, c8⟩ := c6 (by omega); omega) | exact n4 (by omega) | exact absurd (n4 (by omega)) ‹_›
         ·
          iterate 2 refine zlo ?_
          refine zlv xpf ?_
          refine zlv xmv ?_
          iterate 6 refine zlo ?_
          refine zlv xpf ?_
          refine zlv xas ?_
          refine zln <| ztn <| zrt <| ztr <| zf1 ⟨_, rfl, ?_⟩
          exfalso
          first | omega | (have hb3 := hb2 i (by omega) (by omega); first | (have := hb3.1 (by omega); omega) | (have := hb3.2 (by first | assumption | exact Classical.not_not.1 ‹_›); omega)) | (have := c2 (by first | assumption | exact Classical.not_not.1 ‹_›); omega) | (have := c3 j (by omega) (by omega); omega) | (have h4 := c4 i2 (by omega) (by omega); rw [← hri, show p.ln i2 = k2 by omega] at h4; omega) | (obtain ⟨c7, c8⟩ := c6 (by omega); omega) | exact n4 (by omega) | exact absurd (n4 (by omega)) ‹_›
        ·
         iterate 2 refine zlo ?_
         refine zlv xpf ?_
         refine zlv xmv ?_
         iterate 2 refine zlo ?_
         refine zlv xpf ?_
         refine zlv xmv ?_
         iterate 6 refine zlo ?_
         refine zlv xpf ?_
         refine zlv xas ?_
         refine zln <| ztn <| zrt <| ztr <| zf1 ⟨_, rfl, ?_⟩
         exfalso
         first | omega | (have hb3 := hb2 i (by omega) (by omega); first | (have := hb3.1 (by omega); omega) | (have := hb3.2 (by first | assumption | exact Classical.not_not.1 ‹_›); omega)) | (have := c2 (by first | assumption | exact Classical.not_not.1 ‹_›); omega) | (have := c3 j (by omega) (by omega); omega) | (have h4 := c4 i2 (by omega) (by omega); rw [← hri, show p.ln i2 = k2 by omega] at h4; omega) | (obtain ⟨c7, c8⟩ := c6 (by omega); omega) | exact n4 (by omega) | exact absurd (n4 (by omega)) ‹_›
       ·
        refine zsk <| ztn <| zsq <| zsq <| zrg ?_
        refine zlv xmv ?_
        obtain ⟨c1, c2, c3, c4, c5, c6⟩ := best_law hm (by omega) hl (by have h9 := hgsy1; rwa [show ey1 = 0 by omega] at h9) hgby2 (fun j _ _ => (whv_rng (mu := mu) hub j).1) hwhz1
        have hzn := hxry1.n0; have hyn := hxry2.n0; have hyn1 := hxry2.n1
        refine zlv (xln sl_22 hxry1) ?_
        refine zlv (xfb 0 fd_44_0) ?_
        refine zlv (xlb 0 pl_22 hS) ?_
        refine zlv (xln sl_22 hL.c.slh) ?_
        refine zlv xneq ?_
        refine zlv xmv ?_
        refine zlb 113 ?_ ?_ <;> intro hc
        ·
         iterate 6 refine zlo ?_
         refine zlv xpt ?_
         refine zln <| ztn <| zct <| zsq <| zrg ?_
         refine zlv xas ?_
         refine zln <| ztn <| zrt <| ztr <| zf1 ⟨_, rfl, ?_⟩
         exfalso
         first | omega | (have hb3 := hb2 i (by omega) (by omega); first | (have := hb3.1 (by omega); omega) | (have := hb3.2 (by first | assumption | exact Classical.not_not.1 ‹_›); omega)) | (have := c2 (by first | assumption | exact Classical.not_not.1 ‹_›); omega) | (have := c3 j (by omega) (by omega); omega) | (have h4 := c4 i2 (by omega) (by omega); rw [← hri, show p.ln i2 = k2 by omega] at h4; omega) | (obtain ⟨c7, c8⟩ := c6 (by omega); omega) | exact n4 (by omega) | exact absurd (n4 (by omega)) ‹_›
        ·
         iterate 2 refine zlv xmv ?_
         refine zlb 115 ?_ ?_ <;> intro hc
         ·
          iterate 2 refine zlv xmv ?_
          refine zlv xlss ?_
          refine zlv xpt ?_
          refine zlv xpf ?_
          refine zln <| ztn ?_
          refine zcif ?_ ?_ <;> intro hc
          ·
           refine zsq <| zrg ?_
           refine zlv xas ?_
           refine zln <| ztn <| zrt <| ztr <| zf1 ⟨_, rfl, ?_⟩
           exfalso
           first | omega | (have hb3 := hb2 i (by omega) (by omega); first | (have := hb3.1 (by omega); omega) | (have := hb3.2 (by first | assumption | exact Classical.not_not.1 ‹_›); omega)) | (have := c2 (by first | assumption | exact Classical.not_not.1 ‹_›); omega) | (have := c3 j (by omega) (by omega); omega) | (have h4 := c4 i2 (by omega) (by omega); rw [← hri, show p.ln i2 = k2 by omega] at h4; omega) | (obtain ⟨c7, c8⟩ := c6 (by omega); omega) | exact n4 (by omega) | exact absurd (n4 (by omega)) ‹_›
          ·
           refine zsk <| ztn <| zsq <| zrg ?_
           refine zlv xas ?_
           refine zln <| ztn <| zsq <| zsq <| zrg ?_
           refine zlv xmv ?_
           refine zlv (xln sl_22 hxry1) ?_
           refine zlv xmv ?_
           refine zln <| ztn <| zbk <| zlp (fun mm M w => ∃ (y : Int) (j : Int), mm = ((xny1 - j).toNat) ∧ (0 ≤ j) ∧ (j ≤ xny1) ∧ (y = dotp p.c xfy1 j.toNat) ∧ M = [(2, .pointer (some ⟨g1, 0, none⟩)), (5, xry1), (6, .int .i64 vay1), (7, .int .i64 cuy1), (12, xry2), (13, .int .i64 ey2), (15, .int .i64 y), (122, .int .i64 xny1), (123, .int .i64 j)] ∧ Sat w0 w [.blk g1 [vc, vA, vb], .own xry1 1 3 xny1 (ints xfy1), .own wrz1 1 3 wnz1 (ints wfz1), .own xry2 1 3 xny2 (ints xfy2)]) ⟨0, 0, rfl, (by omega), (by omega), ?_, rfl, hS⟩ ?_
           ·
            rfl
           ·
            clear hS w
            rintro mm M w ⟨y, j, rfl, j0, j1, hy, rfl, hS⟩
            refine zsq <| zrg ?_
            refine zlv xlss ?_
            refine zln <| ztn <| zsq ?_
            refine zcif ?_ ?_ <;> intro hc
            ·
             refine zsk <| ztn <| zsq <| zbk <| zsq <| zrg ?_
             refine zlv xmv ?_
             refine zlv xas ?_
             refine zln <| ztn <| zsq <| zsq <| zrg ?_
             iterate 2 refine zlv xmv ?_
             refine zlv (xix (kk := j) sl_22 hxry1) ?_
             refine zlv (xlr (u := .int .i64 (xfy1 j)) pl_3 (hS.rowN 1 rfl)) ?_
             refine zlv xlss ?_
             refine zln <| ztn ?_
             refine zcif ?_ ?_ <;> intro hc
             ·
              refine zsq <| zrg ?_
              refine zlv xas ?_
              refine zln <| ztn <| zrt <| ztr <| zbr <| ztr <| ztr <| zbr <| ztr <| zf1 ⟨_, rfl, ?_⟩
              exfalso
              first | omega | (have hb3 := hb2 i (by omega) (by omega); first | (have := hb3.1 (by omega); omega) | (have := hb3.2 (by first | assumption | exact Classical.not_not.1 ‹_›); omega)) | (have := c2 (by first | assumption | exact Classical.not_not.1 ‹_›); omega) | (have := c3 j (by omega) (by omega); omega) | (have h4 := c4 i2 (by omega) (by omega); rw [← hri, show p.ln i2 = k2 by omega] at h4; omega) | (obtain ⟨c7, c8⟩ := c6 (by omega); omega) | exact n4 (by omega) | exact absurd (n4 (by omega)) ‹_›
             ·
              refine zsk <| ztn ?_
              refine zdst [0, 1, 2, 3] [0, 1, 2, 3] 1000 mx_ hS ?_; clear hS; intro w hS
              refine zdv 0 (fun _ => xmv) ?_
              refine zdv 1 (fun _ => (xfb 0 fd_44_0)) ?_
              refine zdla 2 (fun w hS => (xlb 0 pl_22 hS)) ?_
              refine zdv 3 (fun _ => xmv) ?_
              refine zdv 4 (fun _ => (xix (kk := j) sl_22 hL.c.slh)) ?_
              refine zdla 5 (fun w hS => (xlr (u := .int .i64 (p.c j)) pl_3 (hL.c.below hS.below))) ?_
              refine zdv 6 (fun _ => xmv) ?_
              refine zdv 7 (fun _ => xmv) ?_
              refine zdv 8 (fun _ => (xix (kk := j) sl_22 hxry1)) ?_
              refine zdla 9 (fun w hS => (xlr (u := .int .i64 (xfy1 j)) pl_3 (hS.rowN 1 rfl))) ?_
              have hcj := c3 j (by omega) (by omega)
              have hmu2 := mul_abs (a := p.c j) (b := xfy1 j) (A := 1000000) (B := 1073741824) (by have := hl.c j j0 (by omega); omega) (by omega)
              have hbd := dotp_bd (f := p.c) (g := xfy1) (A := 1000000) (B := 1073741824) (by omega) (by omega) j.toNat (fun k k0 k1 => by have := hl.c k k0 (by omega); omega) (fun k k0 k1 => by have := c3 k k0 (by omega); omega)
              refine zdv 10 (fun _ => (xmul (r := ((p.c j) * (xfy1 j))) (e := rfl))) ?_
              refine zdv 11 (fun _ => (xadd (r := y + ((p.c j) * (xfy1 j))))) ?_
              refine zdv 12 (fun _ => xas) ?_
              refine zdd <| zbn <| ztn <| zrg ?_
              refine zlv (xadd (r := j + 1)) ?_
              refine zlv xmv ?_
              refine zln <| zlq ⟨y + ((p.c j) * (xfy1 j)), j + 1, rfl, (by omega), (by omega), ?_, rfl, hS⟩
              ·
               rw [dotp_next _ _ j0, ← hy]
            ·
             refine zxt <| ztx <| ztx <| zbh <| ztn <| zsq <| zsq <| zrg ?_
             refine zlv (xfb 1 fd_44_1) ?_
             refine zlv (xlb 0 pl_23 hS) ?_
             refine zlv (xln sl_23 hL.A.row.slh) ?_
             refine zlv xmv ?_
             refine zln <| ztn <| zbk <| zlp (fun mm M w => ∃ (i2 : Int), mm = ((p.m - i2).toNat) ∧ (0 ≤ i2) ∧ (i2 ≤ p.m) ∧ M = [(2, .pointer (some ⟨g1, 0, none⟩)), (5, xry1), (6, .int .i64 vay1), (7, .int .i64 cuy1), (12, xry2), (13, .int .i64 ey2), (15, .int .i64 y), (145, vA), (146, .int .i64 p.m), (147, .int .i64 i2)] ∧ Sat w0 w [.blk g1 [vc, vA, vb], .own xry1 1 3 xny1 (ints xfy1), .own wrz1 1 3 wnz1 (ints wfz1), .own xry2 1 3 xny2 (ints xfy2)]) ⟨0, rfl, (by omega), (by omega), rfl, hS⟩ ?_
             ·
              clear hS w
              rintro mm M w ⟨i2, rfl, h0, h1, rfl, hS⟩
              refine zsq <| zrg ?_
              refine zlv xlss ?_
              refine zln <| ztn <| zsq ?_
              refine zcif ?_ ?_ <;> intro hc
              ·
               refine zsk <| ztn <| zsq <| zbk <| zsq <| zrg ?_
               refine zlv xmv ?_
               have hri := (hl.rows i2 h0 (by omega)).1
               refine zlv (xix (kk := i2) sl_23 hL.A.row.slh) ?_
               refine zlv (xlr (u := (vq i2)) pl_22 (hL.A.row.below hS.below)) ?_
               iterate 2 refine zlv xas ?_
               refine zln <| ztn <| zsq <| zrg ?_
               refine zlv xas ?_
               refine zln <| ztn <| zsq <| zsq <| zrg ?_
               refine zlv xmv ?_
               refine zlv (xln sl_22 (hL.A.p i2 (by omega) (by omega)).slh) ?_
               refine zlv xmv ?_
               refine zln <| ztn <| zbk <| zlp (fun mm M w => ∃ (z : Int) (k2 : Int), mm = ((p.ln i2 - k2).toNat) ∧ (0 ≤ k2) ∧ (k2 ≤ p.ln i2) ∧ (z = dotp (p.A i2) xfy1 k2.toNat) ∧ M = [(2, .pointer (some ⟨g1, 0, none⟩)), (5, xry1), (6, .int .i64 vay1), (7, .int .i64 cuy1), (12, xry2), (13, .int .i64 ey2), (15, .int .i64 y), (17, .int .i64 i2), (18, (vq i2)), (19, .int .i64 z), (145, vA), (146, .int .i64 p.m), (147, .int .i64 i2), (153, .int .i64 (p.ln i2)), (154, .int .i64 k2)] ∧ Sat w0 w [.blk g1 [vc, vA, vb], .own xry1 1 3 xny1 (ints xfy1), .own wrz1 1 3 wnz1 (ints wfz1), .own xry2 1 3 xny2 (ints xfy2)]) ⟨0, 0, rfl, (by omega), (by omega), ?_, rfl, hS⟩ ?_
               ·
                rfl
               ·
                clear hS w
                rintro mm M w ⟨z, k2, rfl, k0, k1, hz, rfl, hS⟩
                refine zsq <| zrg ?_
                refine zlv xlss ?_
                refine zln <| ztn <| zsq ?_
                refine zcif ?_ ?_ <;> intro hc
                ·
                 refine zsk <| ztn <| zsq <| zbk <| zsq <| zrg ?_
                 refine zlv xmv ?_
                 refine zlv xas ?_
                 refine zln <| ztn ?_
                 refine zdst [0, 1, 2, 3] [0, 1, 2, 3] 1000 mx_ hS ?_; clear hS; intro w hS
                 refine zdv 0 (fun _ => xmv) ?_
                 refine zdv 1 (fun _ => xmv) ?_
                 refine zdv 2 (fun _ => xmv) ?_
                 refine zdv 3 (fun _ => (xix (kk := k2) sl_22 (hL.A.p i2 (by omega) (by omega)).slh)) ?_
                 refine zdla 4 (fun w hS => (xlr (u := .int .i64 ((p.A i2) k2)) pl_3 ((hL.A.p i2 (by omega) (by omega)).below hS.below))) ?_
                 refine zdv 5 (fun _ => xmv) ?_
                 refine zdv 6 (fun _ => xmv) ?_
                 refine zdv 7 (fun _ => (xix (kk := k2) sl_22 hxry1)) ?_
                 refine zdla 8 (fun w hS => (xlr (u := .int .i64 (xfy1 k2)) pl_3 (hS.rowN 1 rfl))) ?_
                 have hcj := c3 k2 (by omega) (by omega)
                 have hmu2 := mul_abs ((hl.rows i2 h0 (by omega)).2 k2 k0 (by omega)) (b := xfy1 k2) (B := 1073741824) (by omega)
                 have hbd := dotp_bd (f := p.A i2) (g := xfy1) (A := 1000000) (B := 1073741824) (by omega) (by omega) k2.toNat (fun k k0 k1 => (hl.rows i2 h0 (by omega)).2 k k0 (by omega)) (fun k k0 k1 => by have := c3 k k0 (by omega); omega)
                 refine zdv 9 (fun _ => (xmul (r := (((p.A i2) k2) * (xfy1 k2))) (e := rfl))) ?_
                 refine zdv 10 (fun _ => (xadd (r := z + (((p.A i2) k2) * (xfy1 k2))))) ?_
                 refine zdv 11 (fun _ => xas) ?_
                 refine zdd <| zbn <| ztn <| zrg ?_
                 refine zlv (xadd (r := k2 + 1)) ?_
                 refine zlv xmv ?_
                 refine zln <| zlq ⟨z + (((p.A i2) k2) * (xfy1 k2)), k2 + 1, rfl, (by omega), (by omega), ?_, rfl, hS⟩
                 ·
                  rw [dotp_next _ _ k0, ← hz]
                ·
                 refine zxt <| ztx <| ztx <| zbh <| ztn <| zsq <| zrg ?_
                 refine zlv xmv ?_
                 refine zlv (xfb 2 fd_44_2) ?_
                 refine zlv (xlb 0 pl_22 hS) ?_
                 refine zlv xmv ?_
                 refine zlv (xix (kk := i2) sl_22 hL.b.slh) ?_
                 refine zlv (xlr (u := .int .i64 (p.b i2)) pl_3 (hL.b.below hS.below)) ?_
                 refine zlv xlss ?_
                 refine zln <| ztn ?_
                 refine zcif ?_ ?_ <;> intro hc
                 ·
                  refine zsq <| zrg ?_
                  refine zlv xas ?_
                  refine zln <| ztn <| zrt <| zbr <| ztr <| ztr <| zbr <| ztr <| zf1 ⟨_, rfl, ?_⟩
                  exfalso
                  first | omega | (have hb3 := hb2 i (by omega) (by omega); first | (have := hb3.1 (by omega); omega) | (have := hb3.2 (by first | assumption | exact Classical.not_not.1 ‹_›); omega)) | (have := c2 (by first | assumption | exact Classical.not_not.1 ‹_›); omega) | (have := c3 j (by omega) (by omega); omega) | (have h4 := c4 i2 (by omega) (by omega); rw [← hri, show p.ln i2 = k2 by omega] at h4; omega) | (obtain ⟨c7, c8⟩ := c6 (by omega); omega) | exact n4 (by omega) | exact absurd (n4 (by omega)) ‹_›
                 ·
                  refine zsk <| zbn <| ztn <| zrg ?_
                  refine zlv (xadd (r := i2 + 1)) ?_
                  refine zlv xmv ?_
                  refine zln <| zlq ⟨i2 + 1, rfl, (by omega), (by omega), rfl, hS⟩
              ·
               refine zxt <| ztx <| ztx <| zbh <| ztn <| zsq <| zrg ?_
               refine zlv xmv ?_
               obtain rfl : j = xny1 := by omega
               have hsum : y = vay1 := by rw [hy, c1]; exact c5
               refine zlv xmv ?_
               refine zlv xeql ?_
               refine zlv xmv ?_
               refine zlb 180 ?_ ?_ <;> intro hc
               ·
                refine zlv xmv ?_
                refine zlv (xkf xneq) ?_
                iterate 2 refine zlv xmv ?_
                obtain ⟨c7, c8⟩ := c6 (by omega)
                obtain ⟨hb1, _⟩ := bounds_law hm hl (by have h9 := hgby2; rwa [show ey2 = 0 by omega] at h9) (fun j _ _ => (whv_rng (mu := mu) hub j).1) hwhz1
                refine zlv (xln sl_22 hxry2) ?_
                refine zlv xgtr ?_
                refine zlv xmv ?_
                refine zlb 187 ?_ ?_ <;> intro hc
                ·
                 iterate 2 refine zlv xmv ?_
                 refine zlv (xln sl_22 hxry2) ?_
                 refine zlv (xsub (r := xny2 - 1)) ?_
                 refine zlv (xix (kk := xny2 - 1) sl_22 hxry2) ?_
                 refine zlv (xlr (u := .int .i64 (xfy2 (xny2 - 1))) pl_3 (hS.rowN 3 rfl)) ?_
                 refine zlv xmv ?_
                 refine zlv xleq ?_
                 refine zlv xpt ?_
                 refine zlv xmv ?_
                 refine zlb 197 ?_ ?_ <;> intro hc
                 ·
                  refine zlv xmv ?_
                  refine zlv xgtr ?_
                  refine zlv xmv ?_
                  refine zlb 200 ?_ ?_ <;> intro hc
                  ·
                   iterate 15 refine zlo ?_
                   iterate 2 refine zlv xpt ?_
                   refine zlv xpf ?_
                   refine zlv xpt ?_
                   refine zlv xas ?_
                   refine zln <| ztn <| zrt <| zf1 ⟨_, rfl, ?_⟩
                   exact ⟨rfl, hS.nl⟩
                  ·
                   iterate 2 refine zlv xmv ?_
                   refine zlv (xln sl_22 hxry2) ?_
                   refine zlv (xsub (r := xny2 - 1)) ?_
                   refine zlv (xix (kk := xny2 - 1) sl_22 hxry2) ?_
                   refine zlv (xlr (u := .int .i64 (xfy2 (xny2 - 1))) pl_3 (hS.rowN 3 rfl)) ?_
                   refine zlv xmv ?_
                   refine zlv xeql ?_
                   refine zlv xmv ?_
                   refine zlb 209 ?_ ?_ <;> intro hc
                   ·
                    refine zlv xmv ?_
                    refine zlv (xln sl_22 hxry2) ?_
                    refine zlv xmv ?_
                    refine zlv (xadd (r := cuy1 + 1)) ?_
                    refine zlv xeql ?_
                    refine zlv xpt ?_
                    refine zlv xpf ?_
                    refine zlv xpt ?_
                    refine zlv xpf ?_
                    refine zlv xpt ?_
                    refine zlv xas ?_
                    refine zln <| ztn <| zrt <| zf1 ⟨_, rfl, ?_⟩
                    exact ⟨(true_B (by first | omega | (have hb3 := hb2 i (by omega) (by omega); first | (have := hb3.1 (by omega); omega) | (have := hb3.2 (by first | assumption | exact Classical.not_not.1 ‹_›); omega)) | (have := c2 (by first | assumption | exact Classical.not_not.1 ‹_›); omega) | (have := c3 j (by omega) (by omega); omega) | (have h4 := c4 i2 (by omega) (by omega); rw [← hri, show p.ln i2 = k2 by omega] at h4; omega) | (obtain ⟨c7, c8⟩ := c6 (by omega); omega) | exact n4 (by omega) | exact absurd (n4 (by omega)) ‹_›)).symm, hS.nl⟩
                   ·
                    iterate 5 refine zlo ?_
                    iterate 2 refine zlv xpf ?_
                    refine zlv xpt ?_
                    refine zlv xpf ?_
                    refine zlv xpt ?_
                    refine zlv xas ?_
                    refine zln <| ztn <| zrt <| zf1 ⟨_, rfl, ?_⟩
                    exfalso
                    first | omega | (have hb3 := hb2 i (by omega) (by omega); first | (have := hb3.1 (by omega); omega) | (have := hb3.2 (by first | assumption | exact Classical.not_not.1 ‹_›); omega)) | (have := c2 (by first | assumption | exact Classical.not_not.1 ‹_›); omega) | (have := c3 j (by omega) (by omega); omega) | (have h4 := c4 i2 (by omega) (by omega); rw [← hri, show p.ln i2 = k2 by omega] at h4; omega) | (obtain ⟨c7, c8⟩ := c6 (by omega); omega) | exact n4 (by omega) | exact absurd (n4 (by omega)) ‹_›
                 ·
                  iterate 19 refine zlo ?_
                  iterate 2 refine zlv xpf ?_
                  refine zlv xpt ?_
                  refine zlv xas ?_
                  refine zln <| ztn <| zrt <| zf1 ⟨_, rfl, ?_⟩
                  exfalso
                  first | omega | (have hb3 := hb2 i (by omega) (by omega); first | (have := hb3.1 (by omega); omega) | (have := hb3.2 (by first | assumption | exact Classical.not_not.1 ‹_›); omega)) | (have := c2 (by first | assumption | exact Classical.not_not.1 ‹_›); omega) | (have := c3 j (by omega) (by omega); omega) | (have h4 := c4 i2 (by omega) (by omega); rw [← hri, show p.ln i2 = k2 by omega] at h4; omega) | (obtain ⟨c7, c8⟩ := c6 (by omega); omega) | exact n4 (by omega) | exact absurd (n4 (by omega)) ‹_›
                ·
                 iterate 8 refine zlo ?_
                 refine zlv xpf ?_
                 refine zlv xmv ?_
                 iterate 19 refine zlo ?_
                 iterate 2 refine zlv xpf ?_
                 refine zlv xpt ?_
                 refine zlv xas ?_
                 refine zln <| ztn <| zrt <| zf1 ⟨_, rfl, ?_⟩
                 exfalso
                 first | omega | (have hb3 := hb2 i (by omega) (by omega); first | (have := hb3.1 (by omega); omega) | (have := hb3.2 (by first | assumption | exact Classical.not_not.1 ‹_›); omega)) | (have := c2 (by first | assumption | exact Classical.not_not.1 ‹_›); omega) | (have := c3 j (by omega) (by omega); omega) | (have h4 := c4 i2 (by omega) (by omega); rw [← hri, show p.ln i2 = k2 by omega] at h4; omega) | (obtain ⟨c7, c8⟩ := c6 (by omega); omega) | exact n4 (by omega) | exact absurd (n4 (by omega)) ‹_›
               ·
                iterate 38 refine zlo ?_
                refine zlv xpf ?_
                refine zlv xas ?_
                refine zln <| ztn <| zrt <| zf1 ⟨_, rfl, ?_⟩
                exfalso
                first | omega | (have hb3 := hb2 i (by omega) (by omega); first | (have := hb3.1 (by omega); omega) | (have := hb3.2 (by first | assumption | exact Classical.not_not.1 ‹_›); omega)) | (have := c2 (by first | assumption | exact Classical.not_not.1 ‹_›); omega) | (have := c3 j (by omega) (by omega); omega) | (have h4 := c4 i2 (by omega) (by omega); rw [← hri, show p.ln i2 = k2 by omega] at h4; omega) | (obtain ⟨c7, c8⟩ := c6 (by omega); omega) | exact n4 (by omega) | exact absurd (n4 (by omega)) ‹_›
         ·
          iterate 3 refine zlo ?_
          iterate 2 refine zlv xpf ?_
          refine zln <| ztn <| zcf <| zsk <| ztn <| zsq <| zrg ?_
          refine zlv xas ?_
          refine zln <| ztn <| zsq <| zsq <| zrg ?_
          refine zlv xmv ?_
          refine zlv (xln sl_22 hxry1) ?_
          refine zlv xmv ?_
          refine zln <| ztn <| zbk <| zlp (fun mm M w => ∃ (y : Int) (j : Int), mm = ((xny1 - j).toNat) ∧ (0 ≤ j) ∧ (j ≤ xny1) ∧ (y = dotp p.c xfy1 j.toNat) ∧ M = [(2, .pointer (some ⟨g1, 0, none⟩)), (5, xry1), (6, .int .i64 vay1), (7, .int .i64 cuy1), (12, xry2), (13, .int .i64 ey2), (15, .int .i64 y), (122, .int .i64 xny1), (123, .int .i64 j)] ∧ Sat w0 w [.blk g1 [vc, vA, vb], .own xry1 1 3 xny1 (ints xfy1), .own wrz1 1 3 wnz1 (ints wfz1), .own xry2 1 3 xny2 (ints xfy2)]) ⟨0, 0, rfl, (by omega), (by omega), ?_, rfl, hS⟩ ?_
          ·
           rfl
          ·
           clear hS w
           rintro mm M w ⟨y, j, rfl, j0, j1, hy, rfl, hS⟩
           refine zsq <| zrg ?_
           refine zlv xlss ?_
           refine zln <| ztn <| zsq ?_
           refine zcif ?_ ?_ <;> intro hc
           ·
            refine zsk <| ztn <| zsq <| zbk <| zsq <| zrg ?_
            refine zlv xmv ?_
            refine zlv xas ?_
            refine zln <| ztn <| zsq <| zsq <| zrg ?_
            iterate 2 refine zlv xmv ?_
            refine zlv (xix (kk := j) sl_22 hxry1) ?_
            refine zlv (xlr (u := .int .i64 (xfy1 j)) pl_3 (hS.rowN 1 rfl)) ?_
            refine zlv xlss ?_
            refine zln <| ztn ?_
            refine zcif ?_ ?_ <;> intro hc
            ·
             refine zsq <| zrg ?_
             refine zlv xas ?_
             refine zln <| ztn <| zrt <| ztr <| zbr <| ztr <| ztr <| zbr <| ztr <| zf1 ⟨_, rfl, ?_⟩
             exfalso
             first | omega | (have hb3 := hb2 i (by omega) (by omega); first | (have := hb3.1 (by omega); omega) | (have := hb3.2 (by first | assumption | exact Classical.not_not.1 ‹_›); omega)) | (have := c2 (by first | assumption | exact Classical.not_not.1 ‹_›); omega) | (have := c3 j (by omega) (by omega); omega) | (have h4 := c4 i2 (by omega) (by omega); rw [← hri, show p.ln i2 = k2 by omega] at h4; omega) | (obtain ⟨c7, c8⟩ := c6 (by omega); omega) | exact n4 (by omega) | exact absurd (n4 (by omega)) ‹_›
            ·
             refine zsk <| ztn ?_
             refine zdst [0, 1, 2, 3] [0, 1, 2, 3] 1000 mx_ hS ?_; clear hS; intro w hS
             refine zdv 0 (fun _ => xmv) ?_
             refine zdv 1 (fun _ => (xfb 0 fd_44_0)) ?_
             refine zdla 2 (fun w hS => (xlb 0 pl_22 hS)) ?_
             refine zdv 3 (fun _ => xmv) ?_
             refine zdv 4 (fun _ => (xix (kk := j) sl_22 hL.c.slh)) ?_
             refine zdla 5 (fun w hS => (xlr (u := .int .i64 (p.c j)) pl_3 (hL.c.below hS.below))) ?_
             refine zdv 6 (fun _ => xmv) ?_
             refine zdv 7 (fun _ => xmv) ?_
             refine zdv 8 (fun _ => (xix (kk := j) sl_22 hxry1)) ?_
             refine zdla 9 (fun w hS => (xlr (u := .int .i64 (xfy1 j)) pl_3 (hS.rowN 1 rfl))) ?_
             have hcj := c3 j (by omega) (by omega)
             have hmu2 := mul_abs (a := p.c j) (b := xfy1 j) (A := 1000000) (B := 1073741824) (by have := hl.c j j0 (by omega); omega) (by omega)
             have hbd := dotp_bd (f := p.c) (g := xfy1) (A := 1000000) (B := 1073741824) (by omega) (by omega) j.toNat (fun k k0 k1 => by have := hl.c k k0 (by omega); omega) (fun k k0 k1 => by have := c3 k k0 (by omega); omega)
             refine zdv 10 (fun _ => (xmul (r := ((p.c j) * (xfy1 j))) (e := rfl))) ?_
             refine zdv 11 (fun _ => (xadd (r := y + ((p.c j) * (xfy1 j))))) ?_
             refine zdv 12 (fun _ => xas) ?_
             refine zdd <| zbn <| ztn <| zrg ?_
             refine zlv (xadd (r := j + 1)) ?_
             refine zlv xmv ?_
             refine zln <| zlq ⟨y + ((p.c j) * (xfy1 j)), j + 1, rfl, (by omega), (by omega), ?_, rfl, hS⟩
             ·
              rw [dotp_next _ _ j0, ← hy]
           ·
            refine zxt <| ztx <| ztx <| zbh <| ztn <| zsq <| zsq <| zrg ?_
            refine zlv (xfb 1 fd_44_1) ?_
            refine zlv (xlb 0 pl_23 hS) ?_
            refine zlv (xln sl_23 hL.A.row.slh) ?_
            refine zlv xmv ?_
            refine zln <| ztn <| zbk <| zlp (fun mm M w => ∃ (i2 : Int), mm = ((p.m - i2).toNat) ∧ (0 ≤ i2) ∧ (i2 ≤ p.m) ∧ M = [(2, .pointer (some ⟨g1, 0, none⟩)), (5, xry1), (6, .int .i64 vay1), (7, .int .i64 cuy1), (12, xry2), (13, .int .i64 ey2), (15, .int .i64 y), (145, vA), (146, .int .i64 p.m), (147, .int .i64 i2)] ∧ Sat w0 w [.blk g1 [vc, vA, vb], .own xry1 1 3 xny1 (ints xfy1), .own wrz1 1 3 wnz1 (ints wfz1), .own xry2 1 3 xny2 (ints xfy2)]) ⟨0, rfl, (by omega), (by omega), rfl, hS⟩ ?_
            ·
             clear hS w
             rintro mm M w ⟨i2, rfl, h0, h1, rfl, hS⟩
             refine zsq <| zrg ?_
             refine zlv xlss ?_
             refine zln <| ztn <| zsq ?_
             refine zcif ?_ ?_ <;> intro hc
             ·
              refine zsk <| ztn <| zsq <| zbk <| zsq <| zrg ?_
              refine zlv xmv ?_
              have hri := (hl.rows i2 h0 (by omega)).1
              refine zlv (xix (kk := i2) sl_23 hL.A.row.slh) ?_
              refine zlv (xlr (u := (vq i2)) pl_22 (hL.A.row.below hS.below)) ?_
              iterate 2 refine zlv xas ?_
              refine zln <| ztn <| zsq <| zrg ?_
              refine zlv xas ?_
              refine zln <| ztn <| zsq <| zsq <| zrg ?_
              refine zlv xmv ?_
              refine zlv (xln sl_22 (hL.A.p i2 (by omega) (by omega)).slh) ?_
              refine zlv xmv ?_
              refine zln <| ztn <| zbk <| zlp (fun mm M w => ∃ (z : Int) (k2 : Int), mm = ((p.ln i2 - k2).toNat) ∧ (0 ≤ k2) ∧ (k2 ≤ p.ln i2) ∧ (z = dotp (p.A i2) xfy1 k2.toNat) ∧ M = [(2, .pointer (some ⟨g1, 0, none⟩)), (5, xry1), (6, .int .i64 vay1), (7, .int .i64 cuy1), (12, xry2), (13, .int .i64 ey2), (15, .int .i64 y), (17, .int .i64 i2), (18, (vq i2)), (19, .int .i64 z), (145, vA), (146, .int .i64 p.m), (147, .int .i64 i2), (153, .int .i64 (p.ln i2)), (154, .int .i64 k2)] ∧ Sat w0 w [.blk g1 [vc, vA, vb], .own xry1 1 3 xny1 (ints xfy1), .own wrz1 1 3 wnz1 (ints wfz1), .own xry2 1 3 xny2 (ints xfy2)]) ⟨0, 0, rfl, (by omega), (by omega), ?_, rfl, hS⟩ ?_
              ·
               rfl
              ·
               clear hS w
               rintro mm M w ⟨z, k2, rfl, k0, k1, hz, rfl, hS⟩
               refine zsq <| zrg ?_
               refine zlv xlss ?_
               refine zln <| ztn <| zsq ?_
               refine zcif ?_ ?_ <;> intro hc
               ·
                refine zsk <| ztn <| zsq <| zbk <| zsq <| zrg ?_
                refine zlv xmv ?_
                refine zlv xas ?_
                refine zln <| ztn ?_
                refine zdst [0, 1, 2, 3] [0, 1, 2, 3] 1000 mx_ hS ?_; clear hS; intro w hS
                refine zdv 0 (fun _ => xmv) ?_
                refine zdv 1 (fun _ => xmv) ?_
                refine zdv 2 (fun _ => xmv) ?_
                refine zdv 3 (fun _ => (xix (kk := k2) sl_22 (hL.A.p i2 (by omega) (by omega)).slh)) ?_
                refine zdla 4 (fun w hS => (xlr (u := .int .i64 ((p.A i2) k2)) pl_3 ((hL.A.p i2 (by omega) (by omega)).below hS.below))) ?_
                refine zdv 5 (fun _ => xmv) ?_
                refine zdv 6 (fun _ => xmv) ?_
                refine zdv 7 (fun _ => (xix (kk := k2) sl_22 hxry1)) ?_
                refine zdla 8 (fun w hS => (xlr (u := .int .i64 (xfy1 k2)) pl_3 (hS.rowN 1 rfl))) ?_
                have hcj := c3 k2 (by omega) (by omega)
                have hmu2 := mul_abs ((hl.rows i2 h0 (by omega)).2 k2 k0 (by omega)) (b := xfy1 k2) (B := 1073741824) (by omega)
                have hbd := dotp_bd (f := p.A i2) (g := xfy1) (A := 1000000) (B := 1073741824) (by omega) (by omega) k2.toNat (fun k k0 k1 => (hl.rows i2 h0 (by omega)).2 k k0 (by omega)) (fun k k0 k1 => by have := c3 k k0 (by omega); omega)
                refine zdv 9 (fun _ => (xmul (r := (((p.A i2) k2) * (xfy1 k2))) (e := rfl))) ?_
                refine zdv 10 (fun _ => (xadd (r := z + (((p.A i2) k2) * (xfy1 k2))))) ?_
                refine zdv 11 (fun _ => xas) ?_
                refine zdd <| zbn <| ztn <| zrg ?_
                refine zlv (xadd (r := k2 + 1)) ?_
                refine zlv xmv ?_
                refine zln <| zlq ⟨z + (((p.A i2) k2) * (xfy1 k2)), k2 + 1, rfl, (by omega), (by omega), ?_, rfl, hS⟩
                ·
                 rw [dotp_next _ _ k0, ← hz]
               ·
                refine zxt <| ztx <| ztx <| zbh <| ztn <| zsq <| zrg ?_
                refine zlv xmv ?_
                refine zlv (xfb 2 fd_44_2) ?_
                refine zlv (xlb 0 pl_22 hS) ?_
                refine zlv xmv ?_
                refine zlv (xix (kk := i2) sl_22 hL.b.slh) ?_
                refine zlv (xlr (u := .int .i64 (p.b i2)) pl_3 (hL.b.below hS.below)) ?_
                refine zlv xlss ?_
                refine zln <| ztn ?_
                refine zcif ?_ ?_ <;> intro hc
                ·
                 refine zsq <| zrg ?_
                 refine zlv xas ?_
                 refine zln <| ztn <| zrt <| zbr <| ztr <| ztr <| zbr <| ztr <| zf1 ⟨_, rfl, ?_⟩
                 exfalso
                 first | omega | (have hb3 := hb2 i (by omega) (by omega); first | (have := hb3.1 (by omega); omega) | (have := hb3.2 (by first | assumption | exact Classical.not_not.1 ‹_›); omega)) | (have := c2 (by first | assumption | exact Classical.not_not.1 ‹_›); omega) | (have := c3 j (by omega) (by omega); omega) | (have h4 := c4 i2 (by omega) (by omega); rw [← hri, show p.ln i2 = k2 by omega] at h4; omega) | (obtain ⟨c7, c8⟩ := c6 (by omega); omega) | exact n4 (by omega) | exact absurd (n4 (by omega)) ‹_›
                ·
                 refine zsk <| zbn <| ztn <| zrg ?_
                 refine zlv (xadd (r := i2 + 1)) ?_
                 refine zlv xmv ?_
                 refine zln <| zlq ⟨i2 + 1, rfl, (by omega), (by omega), rfl, hS⟩
             ·
              refine zxt <| ztx <| ztx <| zbh <| ztn <| zsq <| zrg ?_
              refine zlv xmv ?_
              obtain rfl : j = xny1 := by omega
              have hsum : y = vay1 := by rw [hy, c1]; exact c5
              refine zlv xmv ?_
              refine zlv xeql ?_
              refine zlv xmv ?_
              refine zlb 180 ?_ ?_ <;> intro hc
              ·
               refine zlv xmv ?_
               refine zlv (xkf xneq) ?_
               iterate 2 refine zlv xmv ?_
               obtain ⟨c7, c8⟩ := c6 (by omega)
               obtain ⟨hb1, _⟩ := bounds_law hm hl (by have h9 := hgby2; rwa [show ey2 = 0 by omega] at h9) (fun j _ _ => (whv_rng (mu := mu) hub j).1) hwhz1
               refine zlv (xln sl_22 hxry2) ?_
               refine zlv xgtr ?_
               refine zlv xmv ?_
               refine zlb 187 ?_ ?_ <;> intro hc
               ·
                iterate 2 refine zlv xmv ?_
                refine zlv (xln sl_22 hxry2) ?_
                refine zlv (xsub (r := xny2 - 1)) ?_
                refine zlv (xix (kk := xny2 - 1) sl_22 hxry2) ?_
                refine zlv (xlr (u := .int .i64 (xfy2 (xny2 - 1))) pl_3 (hS.rowN 3 rfl)) ?_
                refine zlv xmv ?_
                refine zlv xleq ?_
                refine zlv xpt ?_
                refine zlv xmv ?_
                refine zlb 197 ?_ ?_ <;> intro hc
                ·
                 refine zlv xmv ?_
                 refine zlv xgtr ?_
                 refine zlv xmv ?_
                 refine zlb 200 ?_ ?_ <;> intro hc
                 ·
                  iterate 15 refine zlo ?_
                  iterate 2 refine zlv xpt ?_
                  refine zlv xpf ?_
                  refine zlv xpt ?_
                  refine zlv xas ?_
                  refine zln <| ztn <| zrt <| zf1 ⟨_, rfl, ?_⟩
                  exact ⟨rfl, hS.nl⟩
                 ·
                  iterate 2 refine zlv xmv ?_
                  refine zlv (xln sl_22 hxry2) ?_
                  refine zlv (xsub (r := xny2 - 1)) ?_
                  refine zlv (xix (kk := xny2 - 1) sl_22 hxry2) ?_
                  refine zlv (xlr (u := .int .i64 (xfy2 (xny2 - 1))) pl_3 (hS.rowN 3 rfl)) ?_
                  refine zlv xmv ?_
                  refine zlv xeql ?_
                  refine zlv xmv ?_
                  refine zlb 209 ?_ ?_ <;> intro hc
                  ·
                   refine zlv xmv ?_
                   refine zlv (xln sl_22 hxry2) ?_
                   refine zlv xmv ?_
                   refine zlv (xadd (r := cuy1 + 1)) ?_
                   refine zlv xeql ?_
                   refine zlv xpt ?_
                   refine zlv xpf ?_
                   refine zlv xpt ?_
                   refine zlv xpf ?_
                   refine zlv xpt ?_
                   refine zlv xas ?_
                   refine zln <| ztn <| zrt <| zf1 ⟨_, rfl, ?_⟩
                   exact ⟨(true_B (by first | omega | (have hb3 := hb2 i (by omega) (by omega); first | (have := hb3.1 (by omega); omega) | (have := hb3.2 (by first | assumption | exact Classical.not_not.1 ‹_›); omega)) | (have := c2 (by first | assumption | exact Classical.not_not.1 ‹_›); omega) | (have := c3 j (by omega) (by omega); omega) | (have h4 := c4 i2 (by omega) (by omega); rw [← hri, show p.ln i2 = k2 by omega] at h4; omega) | (obtain ⟨c7, c8⟩ := c6 (by omega); omega) | exact n4 (by omega) | exact absurd (n4 (by omega)) ‹_›)).symm, hS.nl⟩
                  ·
                   iterate 5 refine zlo ?_
                   iterate 2 refine zlv xpf ?_
                   refine zlv xpt ?_
                   refine zlv xpf ?_
                   refine zlv xpt ?_
                   refine zlv xas ?_
                   refine zln <| ztn <| zrt <| zf1 ⟨_, rfl, ?_⟩
                   exfalso
                   first | omega | (have hb3 := hb2 i (by omega) (by omega); first | (have := hb3.1 (by omega); omega) | (have := hb3.2 (by first | assumption | exact Classical.not_not.1 ‹_›); omega)) | (have := c2 (by first | assumption | exact Classical.not_not.1 ‹_›); omega) | (have := c3 j (by omega) (by omega); omega) | (have h4 := c4 i2 (by omega) (by omega); rw [← hri, show p.ln i2 = k2 by omega] at h4; omega) | (obtain ⟨c7, c8⟩ := c6 (by omega); omega) | exact n4 (by omega) | exact absurd (n4 (by omega)) ‹_›
                ·
                 iterate 19 refine zlo ?_
                 iterate 2 refine zlv xpf ?_
                 refine zlv xpt ?_
                 refine zlv xas ?_
                 refine zln <| ztn <| zrt <| zf1 ⟨_, rfl, ?_⟩
                 exfalso
                 first | omega | (have hb3 := hb2 i (by omega) (by omega); first | (have := hb3.1 (by omega); omega) | (have := hb3.2 (by first | assumption | exact Classical.not_not.1 ‹_›); omega)) | (have := c2 (by first | assumption | exact Classical.not_not.1 ‹_›); omega) | (have := c3 j (by omega) (by omega); omega) | (have h4 := c4 i2 (by omega) (by omega); rw [← hri, show p.ln i2 = k2 by omega] at h4; omega) | (obtain ⟨c7, c8⟩ := c6 (by omega); omega) | exact n4 (by omega) | exact absurd (n4 (by omega)) ‹_›
               ·
                iterate 8 refine zlo ?_
                refine zlv xpf ?_
                refine zlv xmv ?_
                iterate 19 refine zlo ?_
                iterate 2 refine zlv xpf ?_
                refine zlv xpt ?_
                refine zlv xas ?_
                refine zln <| ztn <| zrt <| zf1 ⟨_, rfl, ?_⟩
                exfalso
                first | omega | (have hb3 := hb2 i (by omega) (by omega); first | (have := hb3.1 (by omega); omega) | (have := hb3.2 (by first | assumption | exact Classical.not_not.1 ‹_›); omega)) | (have := c2 (by first | assumption | exact Classical.not_not.1 ‹_›); omega) | (have := c3 j (by omega) (by omega); omega) | (have h4 := c4 i2 (by omega) (by omega); rw [← hri, show p.ln i2 = k2 by omega] at h4; omega) | (obtain ⟨c7, c8⟩ := c6 (by omega); omega) | exact n4 (by omega) | exact absurd (n4 (by omega)) ‹_›
              ·
               iterate 38 refine zlo ?_
               refine zlv xpf ?_
               refine zlv xas ?_
               refine zln <| ztn <| zrt <| zf1 ⟨_, rfl, ?_⟩
               exfalso
               first | omega | (have hb3 := hb2 i (by omega) (by omega); first | (have := hb3.1 (by omega); omega) | (have := hb3.2 (by first | assumption | exact Classical.not_not.1 ‹_›); omega)) | (have := c2 (by first | assumption | exact Classical.not_not.1 ‹_›); omega) | (have := c3 j (by omega) (by omega); omega) | (have h4 := c4 i2 (by omega) (by omega); rw [← hri, show p.ln i2 = k2 by omega] at h4; omega) | (obtain ⟨c7, c8⟩ := c6 (by omega); omega) | exact n4 (by omega) | exact absurd (n4 (by omega)) ‹_›
    ·
     refine zsk <| ztn <| zsq <| zsq <| zrg ?_
     refine zlv xmv ?_
     refine zlv xneq ?_
     refine zln <| ztn ?_
     refine zcif ?_ ?_ <;> intro hc
     ·
      refine zsq <| zrg ?_
      refine zlv xmv ?_
      obtain ⟨n1, n2, n3, n4⟩ := best_none hm hl hgsy1 (by omega) (fun j _ _ => (whv_rng (mu := mu) hub j).1) hwhz1
      refine zlv (xln sl_22 hxry1) ?_
      refine zlv xeql ?_
      refine zlv xmv ?_
      refine zlb 91 ?_ ?_ <;> intro hc
      ·
       refine zlv xmv ?_
       refine zlv xeql ?_
       refine zlv xpt ?_
       refine zlv xmv ?_
       refine zlb 95 ?_ ?_ <;> intro hc
       ·
        refine zlv xmv ?_
        refine zlv xeql ?_
        refine zlv xpt ?_
        refine zlv xmv ?_
        refine zlb 99 ?_ ?_ <;> intro hc
        ·
         refine zlv xmv ?_
         refine zlv xneq ?_
         refine zlv xmv ?_
         refine zlb 102 ?_ ?_ <;> intro hc
         ·
          iterate 2 refine zlo ?_
          iterate 2 refine zlv xpt ?_
          refine zlv xas ?_
          refine zln <| ztn <| zrt <| ztr <| zf1 ⟨_, rfl, ?_⟩
          exact ⟨rfl, hS.nl⟩
         ·
          refine zlv xmv ?_
          refine zlv xnot ?_
          refine zlv xpf ?_
          refine zlv xpt ?_
          refine zlv xas ?_
          refine zln <| ztn <| zrt <| ztr <| zf1 ⟨_, rfl, ?_⟩
          exact ⟨(true_B (by first | omega | (have hb3 := hb2 i (by omega) (by omega); first | (have := hb3.1 (by omega); omega) | (have := hb3.2 (by first | assumption | exact Classical.not_not.1 ‹_›); omega)) | (have := c2 (by first | assumption | exact Classical.not_not.1 ‹_›); omega) | (have := c3 j (by omega) (by omega); omega) | (have h4 := c4 i2 (by omega) (by omega); rw [← hri, show p.ln i2 = k2 by omega] at h4; omega) | (obtain ⟨c7, c8⟩ := c6 (by omega); omega) | exact n4 (by omega) | exact absurd (n4 (by omega)) ‹_›)).symm, hS.nl⟩
        ·
         iterate 6 refine zlo ?_
         refine zlv xpf ?_
         refine zlv xas ?_
         refine zln <| ztn <| zrt <| ztr <| zf1 ⟨_, rfl, ?_⟩
         exfalso
         first | omega | (have hb3 := hb2 i (by omega) (by omega); first | (have := hb3.1 (by omega); omega) | (have := hb3.2 (by first | assumption | exact Classical.not_not.1 ‹_›); omega)) | (have := c2 (by first | assumption | exact Classical.not_not.1 ‹_›); omega) | (have := c3 j (by omega) (by omega); omega) | (have h4 := c4 i2 (by omega) (by omega); rw [← hri, show p.ln i2 = k2 by omega] at h4; omega) | (obtain ⟨c7, c8⟩ := c6 (by omega); omega) | exact n4 (by omega) | exact absurd (n4 (by omega)) ‹_›
       ·
        iterate 2 refine zlo ?_
        refine zlv xpf ?_
        refine zlv xmv ?_
        iterate 6 refine zlo ?_
        refine zlv xpf ?_
        refine zlv xas ?_
        refine zln <| ztn <| zrt <| ztr <| zf1 ⟨_, rfl, ?_⟩
        exfalso
        first | omega | (have hb3 := hb2 i (by omega) (by omega); first | (have := hb3.1 (by omega); omega) | (have := hb3.2 (by first | assumption | exact Classical.not_not.1 ‹_›); omega)) | (have := c2 (by first | assumption | exact Classical.not_not.1 ‹_›); omega) | (have := c3 j (by omega) (by omega); omega) | (have h4 := c4 i2 (by omega) (by omega); rw [← hri, show p.ln i2 = k2 by omega] at h4; omega) | (obtain ⟨c7, c8⟩ := c6 (by omega); omega) | exact n4 (by omega) | exact absurd (n4 (by omega)) ‹_›
      ·
       iterate 2 refine zlo ?_
       refine zlv xpf ?_
       refine zlv xmv ?_
       iterate 2 refine zlo ?_
       refine zlv xpf ?_
       refine zlv xmv ?_
       iterate 6 refine zlo ?_
       refine zlv xpf ?_
       refine zlv xas ?_
       refine zln <| ztn <| zrt <| ztr <| zf1 ⟨_, rfl, ?_⟩
       exfalso
       first | omega | (have hb3 := hb2 i (by omega) (by omega); first | (have := hb3.1 (by omega); omega) | (have := hb3.2 (by first | assumption | exact Classical.not_not.1 ‹_›); omega)) | (have := c2 (by first | assumption | exact Classical.not_not.1 ‹_›); omega) | (have := c3 j (by omega) (by omega); omega) | (have h4 := c4 i2 (by omega) (by omega); rw [← hri, show p.ln i2 = k2 by omega] at h4; omega) | (obtain ⟨c7, c8⟩ := c6 (by omega); omega) | exact n4 (by omega) | exact absurd (n4 (by omega)) ‹_›
     ·
      refine zsk <| ztn <| zsq <| zsq <| zrg ?_
      refine zlv xmv ?_
      obtain ⟨c1, c2, c3, c4, c5, c6⟩ := best_law hm (by omega) hl (by have h9 := hgsy1; rwa [show ey1 = 0 by omega] at h9) hgby2 (fun j _ _ => (whv_rng (mu := mu) hub j).1) hwhz1
      have hzn := hxry1.n0; have hyn := hxry2.n0; have hyn1 := hxry2.n1
      refine zlv (xln sl_22 hxry1) ?_
      refine zlv (xfb 0 fd_44_0) ?_
      refine zlv (xlb 0 pl_22 hS) ?_
      refine zlv (xln sl_22 hL.c.slh) ?_
      refine zlv xneq ?_
      refine zlv xmv ?_
      refine zlb 113 ?_ ?_ <;> intro hc
      ·
       iterate 6 refine zlo ?_
       refine zlv xpt ?_
       refine zln <| ztn <| zct <| zsq <| zrg ?_
       refine zlv xas ?_
       refine zln <| ztn <| zrt <| ztr <| zf1 ⟨_, rfl, ?_⟩
       exfalso
       first | omega | (have hb3 := hb2 i (by omega) (by omega); first | (have := hb3.1 (by omega); omega) | (have := hb3.2 (by first | assumption | exact Classical.not_not.1 ‹_›); omega)) | (have := c2 (by first | assumption | exact Classical.not_not.1 ‹_›); omega) | (have := c3 j (by omega) (by omega); omega) | (have h4 := c4 i2 (by omega) (by omega); rw [← hri, show p.ln i2 = k2 by omega] at h4; omega) | (obtain ⟨c7, c8⟩ := c6 (by omega); omega) | exact n4 (by omega) | exact absurd (n4 (by omega)) ‹_›
      ·
       iterate 2 refine zlv xmv ?_
       refine zlb 115 ?_ ?_ <;> intro hc
       ·
        iterate 2 refine zlv xmv ?_
        refine zlv xlss ?_
        refine zlv xpt ?_
        refine zlv xpf ?_
        refine zln <| ztn ?_
        refine zcif ?_ ?_ <;> intro hc
        ·
         refine zsq <| zrg ?_
         refine zlv xas ?_
         refine zln <| ztn <| zrt <| ztr <| zf1 ⟨_, rfl, ?_⟩
         exfalso
         first | omega | (have hb3 := hb2 i (by omega) (by omega); first | (have := hb3.1 (by omega); omega) | (have := hb3.2 (by first | assumption | exact Classical.not_not.1 ‹_›); omega)) | (have := c2 (by first | assumption | exact Classical.not_not.1 ‹_›); omega) | (have := c3 j (by omega) (by omega); omega) | (have h4 := c4 i2 (by omega) (by omega); rw [← hri, show p.ln i2 = k2 by omega] at h4; omega) | (obtain ⟨c7, c8⟩ := c6 (by omega); omega) | exact n4 (by omega) | exact absurd (n4 (by omega)) ‹_›
        ·
         refine zsk <| ztn <| zsq <| zrg ?_
         refine zlv xas ?_
         refine zln <| ztn <| zsq <| zsq <| zrg ?_
         refine zlv xmv ?_
         refine zlv (xln sl_22 hxry1) ?_
         refine zlv xmv ?_
         refine zln <| ztn <| zbk <| zlp (fun mm M w => ∃ (y : Int) (j : Int), mm = ((xny1 - j).toNat) ∧ (0 ≤ j) ∧ (j ≤ xny1) ∧ (y = dotp p.c xfy1 j.toNat) ∧ M = [(2, .pointer (some ⟨g1, 0, none⟩)), (5, xry1), (6, .int .i64 vay1), (7, .int .i64 cuy1), (12, xry2), (13, .int .i64 ey2), (15, .int .i64 y), (122, .int .i64 xny1), (123, .int .i64 j)] ∧ Sat w0 w [.blk g1 [vc, vA, vb], .own xry1 1 3 xny1 (ints xfy1), .own wrz1 1 3 wnz1 (ints wfz1), .own xry2 1 3 xny2 (ints xfy2)]) ⟨0, 0, rfl, (by omega), (by omega), ?_, rfl, hS⟩ ?_
         ·
          rfl
         ·
          clear hS w
          rintro mm M w ⟨y, j, rfl, j0, j1, hy, rfl, hS⟩
          refine zsq <| zrg ?_
          refine zlv xlss ?_
          refine zln <| ztn <| zsq ?_
          refine zcif ?_ ?_ <;> intro hc
          ·
           refine zsk <| ztn <| zsq <| zbk <| zsq <| zrg ?_
           refine zlv xmv ?_
           refine zlv xas ?_
           refine zln <| ztn <| zsq <| zsq <| zrg ?_
           iterate 2 refine zlv xmv ?_
           refine zlv (xix (kk := j) sl_22 hxry1) ?_
           refine zlv (xlr (u := .int .i64 (xfy1 j)) pl_3 (hS.rowN 1 rfl)) ?_
           refine zlv xlss ?_
           refine zln <| ztn ?_
           refine zcif ?_ ?_ <;> intro hc
           ·
            refine zsq <| zrg ?_
            refine zlv xas ?_
            refine zln <| ztn <| zrt <| ztr <| zbr <| ztr <| ztr <| zbr <| ztr <| zf1 ⟨_, rfl, ?_⟩
            exfalso
            first | omega | (have hb3 := hb2 i (by omega) (by omega); first | (have := hb3.1 (by omega); omega) | (have := hb3.2 (by first | assumption | exact Classical.not_not.1 ‹_›); omega)) | (have := c2 (by first | assumption | exact Classical.not_not.1 ‹_›); omega) | (have := c3 j (by omega) (by omega); omega) | (have h4 := c4 i2 (by omega) (by omega); rw [← hri, show p.ln i2 = k2 by omega] at h4; omega) | (obtain ⟨c7, c8⟩ := c6 (by omega); omega) | exact n4 (by omega) | exact absurd (n4 (by omega)) ‹_›
           ·
            refine zsk <| ztn ?_
            refine zdst [0, 1, 2, 3] [0, 1, 2, 3] 1000 mx_ hS ?_; clear hS; intro w hS
            refine zdv 0 (fun _ => xmv) ?_
            refine zdv 1 (fun _ => (xfb 0 fd_44_0)) ?_
            refine zdla 2 (fun w hS => (xlb 0 pl_22 hS)) ?_
            refine zdv 3 (fun _ => xmv) ?_
            refine zdv 4 (fun _ => (xix (kk := j) sl_22 hL.c.slh)) ?_
            refine zdla 5 (fun w hS => (xlr (u := .int .i64 (p.c j)) pl_3 (hL.c.below hS.below))) ?_
            refine zdv 6 (fun _ => xmv) ?_
            refine zdv 7 (fun _ => xmv) ?_
            refine zdv 8 (fun _ => (xix (kk := j) sl_22 hxry1)) ?_
            refine zdla 9 (fun w hS => (xlr (u := .int .i64 (xfy1 j)) pl_3 (hS.rowN 1 rfl))) ?_
            have hcj := c3 j (by omega) (by omega)
            have hmu2 := mul_abs (a := p.c j) (b := xfy1 j) (A := 1000000) (B := 1073741824) (by have := hl.c j j0 (by omega); omega) (by omega)
            have hbd := dotp_bd (f := p.c) (g := xfy1) (A := 1000000) (B := 1073741824) (by omega) (by omega) j.toNat (fun k k0 k1 => by have := hl.c k k0 (by omega); omega) (fun k k0 k1 => by have := c3 k k0 (by omega); omega)
            refine zdv 10 (fun _ => (xmul (r := ((p.c j) * (xfy1 j))) (e := rfl))) ?_
            refine zdv 11 (fun _ => (xadd (r := y + ((p.c j) * (xfy1 j))))) ?_
            refine zdv 12 (fun _ => xas) ?_
            refine zdd <| zbn <| ztn <| zrg ?_
            refine zlv (xadd (r := j + 1)) ?_
            refine zlv xmv ?_
            refine zln <| zlq ⟨y + ((p.c j) * (xfy1 j)), j + 1, rfl, (by omega), (by omega), ?_, rfl, hS⟩
            ·
             rw [dotp_next _ _ j0, ← hy]
          ·
           refine zxt <| ztx <| ztx <| zbh <| ztn <| zsq <| zsq <| zrg ?_
           refine zlv (xfb 1 fd_44_1) ?_
           refine zlv (xlb 0 pl_23 hS) ?_
           refine zlv (xln sl_23 hL.A.row.slh) ?_
           refine zlv xmv ?_
           refine zln <| ztn <| zbk <| zlp (fun mm M w => ∃ (i2 : Int), mm = ((p.m - i2).toNat) ∧ (0 ≤ i2) ∧ (i2 ≤ p.m) ∧ M = [(2, .pointer (some ⟨g1, 0, none⟩)), (5, xry1), (6, .int .i64 vay1), (7, .int .i64 cuy1), (12, xry2), (13, .int .i64 ey2), (15, .int .i64 y), (145, vA), (146, .int .i64 p.m), (147, .int .i64 i2)] ∧ Sat w0 w [.blk g1 [vc, vA, vb], .own xry1 1 3 xny1 (ints xfy1), .own wrz1 1 3 wnz1 (ints wfz1), .own xry2 1 3 xny2 (ints xfy2)]) ⟨0, rfl, (by omega), (by omega), rfl, hS⟩ ?_
           ·
            clear hS w
            rintro mm M w ⟨i2, rfl, h0, h1, rfl, hS⟩
            refine zsq <| zrg ?_
            refine zlv xlss ?_
            refine zln <| ztn <| zsq ?_
            refine zcif ?_ ?_ <;> intro hc
            ·
             refine zsk <| ztn <| zsq <| zbk <| zsq <| zrg ?_
             refine zlv xmv ?_
             have hri := (hl.rows i2 h0 (by omega)).1
             refine zlv (xix (kk := i2) sl_23 hL.A.row.slh) ?_
             refine zlv (xlr (u := (vq i2)) pl_22 (hL.A.row.below hS.below)) ?_
             iterate 2 refine zlv xas ?_
             refine zln <| ztn <| zsq <| zrg ?_
             refine zlv xas ?_
             refine zln <| ztn <| zsq <| zsq <| zrg ?_
             refine zlv xmv ?_
             refine zlv (xln sl_22 (hL.A.p i2 (by omega) (by omega)).slh) ?_
             refine zlv xmv ?_
             refine zln <| ztn <| zbk <| zlp (fun mm M w => ∃ (z : Int) (k2 : Int), mm = ((p.ln i2 - k2).toNat) ∧ (0 ≤ k2) ∧ (k2 ≤ p.ln i2) ∧ (z = dotp (p.A i2) xfy1 k2.toNat) ∧ M = [(2, .pointer (some ⟨g1, 0, none⟩)), (5, xry1), (6, .int .i64 vay1), (7, .int .i64 cuy1), (12, xry2), (13, .int .i64 ey2), (15, .int .i64 y), (17, .int .i64 i2), (18, (vq i2)), (19, .int .i64 z), (145, vA), (146, .int .i64 p.m), (147, .int .i64 i2), (153, .int .i64 (p.ln i2)), (154, .int .i64 k2)] ∧ Sat w0 w [.blk g1 [vc, vA, vb], .own xry1 1 3 xny1 (ints xfy1), .own wrz1 1 3 wnz1 (ints wfz1), .own xry2 1 3 xny2 (ints xfy2)]) ⟨0, 0, rfl, (by omega), (by omega), ?_, rfl, hS⟩ ?_
             ·
              rfl
             ·
              clear hS w
              rintro mm M w ⟨z, k2, rfl, k0, k1, hz, rfl, hS⟩
              refine zsq <| zrg ?_
              refine zlv xlss ?_
              refine zln <| ztn <| zsq ?_
              refine zcif ?_ ?_ <;> intro hc
              ·
               refine zsk <| ztn <| zsq <| zbk <| zsq <| zrg ?_
               refine zlv xmv ?_
               refine zlv xas ?_
               refine zln <| ztn ?_
               refine zdst [0, 1, 2, 3] [0, 1, 2, 3] 1000 mx_ hS ?_; clear hS; intro w hS
               refine zdv 0 (fun _ => xmv) ?_
               refine zdv 1 (fun _ => xmv) ?_
               refine zdv 2 (fun _ => xmv) ?_
               refine zdv 3 (fun _ => (xix (kk := k2) sl_22 (hL.A.p i2 (by omega) (by omega)).slh)) ?_
               refine zdla 4 (fun w hS => (xlr (u := .int .i64 ((p.A i2) k2)) pl_3 ((hL.A.p i2 (by omega) (by omega)).below hS.below))) ?_
               refine zdv 5 (fun _ => xmv) ?_
               refine zdv 6 (fun _ => xmv) ?_
               refine zdv 7 (fun _ => (xix (kk := k2) sl_22 hxry1)) ?_
               refine zdla 8 (fun w hS => (xlr (u := .int .i64 (xfy1 k2)) pl_3 (hS.rowN 1 rfl))) ?_
               have hcj := c3 k2 (by omega) (by omega)
               have hmu2 := mul_abs ((hl.rows i2 h0 (by omega)).2 k2 k0 (by omega)) (b := xfy1 k2) (B := 1073741824) (by omega)
               have hbd := dotp_bd (f := p.A i2) (g := xfy1) (A := 1000000) (B := 1073741824) (by omega) (by omega) k2.toNat (fun k k0 k1 => (hl.rows i2 h0 (by omega)).2 k k0 (by omega)) (fun k k0 k1 => by have := c3 k k0 (by omega); omega)
               refine zdv 9 (fun _ => (xmul (r := (((p.A i2) k2) * (xfy1 k2))) (e := rfl))) ?_
               refine zdv 10 (fun _ => (xadd (r := z + (((p.A i2) k2) * (xfy1 k2))))) ?_
               refine zdv 11 (fun _ => xas) ?_
               refine zdd <| zbn <| ztn <| zrg ?_
               refine zlv (xadd (r := k2 + 1)) ?_
               refine zlv xmv ?_
               refine zln <| zlq ⟨z + (((p.A i2) k2) * (xfy1 k2)), k2 + 1, rfl, (by omega), (by omega), ?_, rfl, hS⟩
               ·
                rw [dotp_next _ _ k0, ← hz]
              ·
               refine zxt <| ztx <| ztx <| zbh <| ztn <| zsq <| zrg ?_
               refine zlv xmv ?_
               refine zlv (xfb 2 fd_44_2) ?_
               refine zlv (xlb 0 pl_22 hS) ?_
               refine zlv xmv ?_
               refine zlv (xix (kk := i2) sl_22 hL.b.slh) ?_
               refine zlv (xlr (u := .int .i64 (p.b i2)) pl_3 (hL.b.below hS.below)) ?_
               refine zlv xlss ?_
               refine zln <| ztn ?_
               refine zcif ?_ ?_ <;> intro hc
               ·
                refine zsq <| zrg ?_
                refine zlv xas ?_
                refine zln <| ztn <| zrt <| zbr <| ztr <| ztr <| zbr <| ztr <| zf1 ⟨_, rfl, ?_⟩
                exfalso
                first | omega | (have hb3 := hb2 i (by omega) (by omega); first | (have := hb3.1 (by omega); omega) | (have := hb3.2 (by first | assumption | exact Classical.not_not.1 ‹_›); omega)) | (have := c2 (by first | assumption | exact Classical.not_not.1 ‹_›); omega) | (have := c3 j (by omega) (by omega); omega) | (have h4 := c4 i2 (by omega) (by omega); rw [← hri, show p.ln i2 = k2 by omega] at h4; omega) | (obtain ⟨c7, c8⟩ := c6 (by omega); omega) | exact n4 (by omega) | exact absurd (n4 (by omega)) ‹_›
               ·
                refine zsk <| zbn <| ztn <| zrg ?_
                refine zlv (xadd (r := i2 + 1)) ?_
                refine zlv xmv ?_
                refine zln <| zlq ⟨i2 + 1, rfl, (by omega), (by omega), rfl, hS⟩
            ·
             refine zxt <| ztx <| ztx <| zbh <| ztn <| zsq <| zrg ?_
             refine zlv xmv ?_
             obtain rfl : j = xny1 := by omega
             have hsum : y = vay1 := by rw [hy, c1]; exact c5
             refine zlv xmv ?_
             refine zlv xeql ?_
             refine zlv xmv ?_
             refine zlb 180 ?_ ?_ <;> intro hc
             ·
              refine zlv xmv ?_
              refine zlv xneq ?_
              refine zlv xmv ?_
              refine zlb 183 ?_ ?_ <;> intro hc
              ·
               iterate 34 refine zlo ?_
               iterate 2 refine zlv xpt ?_
               refine zlv xas ?_
               refine zln <| ztn <| zrt <| zf1 ⟨_, rfl, ?_⟩
               exact ⟨rfl, hS.nl⟩
              ·
               refine zlv xmv ?_
               obtain ⟨c7, c8⟩ := c6 (by omega)
               obtain ⟨hb1, _⟩ := bounds_law hm hl (by have h9 := hgby2; rwa [show ey2 = 0 by omega] at h9) (fun j _ _ => (whv_rng (mu := mu) hub j).1) hwhz1
               refine zlv (xln sl_22 hxry2) ?_
               refine zlv xgtr ?_
               refine zlv xmv ?_
               refine zlb 187 ?_ ?_ <;> intro hc
               ·
                iterate 2 refine zlv xmv ?_
                refine zlv (xln sl_22 hxry2) ?_
                refine zlv (xsub (r := xny2 - 1)) ?_
                refine zlv (xix (kk := xny2 - 1) sl_22 hxry2) ?_
                refine zlv (xlr (u := .int .i64 (xfy2 (xny2 - 1))) pl_3 (hS.rowN 3 rfl)) ?_
                refine zlv xmv ?_
                refine zlv xleq ?_
                refine zlv xpt ?_
                refine zlv xmv ?_
                refine zlb 197 ?_ ?_ <;> intro hc
                ·
                 refine zlv xmv ?_
                 refine zlv xgtr ?_
                 refine zlv xmv ?_
                 refine zlb 200 ?_ ?_ <;> intro hc
                 ·
                  iterate 15 refine zlo ?_
                  iterate 2 refine zlv xpt ?_
                  refine zlv xpf ?_
                  refine zlv xpt ?_
                  refine zlv xas ?_
                  refine zln <| ztn <| zrt <| zf1 ⟨_, rfl, ?_⟩
                  exact ⟨rfl, hS.nl⟩
                 ·
                  iterate 2 refine zlv xmv ?_
                  refine zlv (xln sl_22 hxry2) ?_
                  refine zlv (xsub (r := xny2 - 1)) ?_
                  refine zlv (xix (kk := xny2 - 1) sl_22 hxry2) ?_
                  refine zlv (xlr (u := .int .i64 (xfy2 (xny2 - 1))) pl_3 (hS.rowN 3 rfl)) ?_
                  refine zlv xmv ?_
                  refine zlv xeql ?_
                  refine zlv xmv ?_
                  refine zlb 209 ?_ ?_ <;> intro hc
                  ·
                   refine zlv xmv ?_
                   refine zlv (xln sl_22 hxry2) ?_
                   refine zlv xmv ?_
                   refine zlv (xadd (r := cuy1 + 1)) ?_
                   refine zlv xeql ?_
                   refine zlv xpt ?_
                   refine zlv xpf ?_
                   refine zlv xpt ?_
                   refine zlv xpf ?_
                   refine zlv xpt ?_
                   refine zlv xas ?_
                   refine zln <| ztn <| zrt <| zf1 ⟨_, rfl, ?_⟩
                   exact ⟨(true_B (by first | omega | (have hb3 := hb2 i (by omega) (by omega); first | (have := hb3.1 (by omega); omega) | (have := hb3.2 (by first | assumption | exact Classical.not_not.1 ‹_›); omega)) | (have := c2 (by first | assumption | exact Classical.not_not.1 ‹_›); omega) | (have := c3 j (by omega) (by omega); omega) | (have h4 := c4 i2 (by omega) (by omega); rw [← hri, show p.ln i2 = k2 by omega] at h4; omega) | (obtain ⟨c7, c8⟩ := c6 (by omega); omega) | exact n4 (by omega) | exact absurd (n4 (by omega)) ‹_›)).symm, hS.nl⟩
                  ·
                   iterate 5 refine zlo ?_
                   iterate 2 refine zlv xpf ?_
                   refine zlv xpt ?_
                   refine zlv xpf ?_
                   refine zlv xpt ?_
                   refine zlv xas ?_
                   refine zln <| ztn <| zrt <| zf1 ⟨_, rfl, ?_⟩
                   exfalso
                   first | omega | (have hb3 := hb2 i (by omega) (by omega); first | (have := hb3.1 (by omega); omega) | (have := hb3.2 (by first | assumption | exact Classical.not_not.1 ‹_›); omega)) | (have := c2 (by first | assumption | exact Classical.not_not.1 ‹_›); omega) | (have := c3 j (by omega) (by omega); omega) | (have h4 := c4 i2 (by omega) (by omega); rw [← hri, show p.ln i2 = k2 by omega] at h4; omega) | (obtain ⟨c7, c8⟩ := c6 (by omega); omega) | exact n4 (by omega) | exact absurd (n4 (by omega)) ‹_›
                ·
                 iterate 19 refine zlo ?_
                 iterate 2 refine zlv xpf ?_
                 refine zlv xpt ?_
                 refine zlv xas ?_
                 refine zln <| ztn <| zrt <| zf1 ⟨_, rfl, ?_⟩
                 exfalso
                 first | omega | (have hb3 := hb2 i (by omega) (by omega); first | (have := hb3.1 (by omega); omega) | (have := hb3.2 (by first | assumption | exact Classical.not_not.1 ‹_›); omega)) | (have := c2 (by first | assumption | exact Classical.not_not.1 ‹_›); omega) | (have := c3 j (by omega) (by omega); omega) | (have h4 := c4 i2 (by omega) (by omega); rw [← hri, show p.ln i2 = k2 by omega] at h4; omega) | (obtain ⟨c7, c8⟩ := c6 (by omega); omega) | exact n4 (by omega) | exact absurd (n4 (by omega)) ‹_›
               ·
                iterate 8 refine zlo ?_
                refine zlv xpf ?_
                refine zlv xmv ?_
                iterate 19 refine zlo ?_
                iterate 2 refine zlv xpf ?_
                refine zlv xpt ?_
                refine zlv xas ?_
                refine zln <| ztn <| zrt <| zf1 ⟨_, rfl, ?_⟩
                exfalso
                first | omega | (have hb3 := hb2 i (by omega) (by omega); first | (have := hb3.1 (by omega); omega) | (have := hb3.2 (by first | assumption | exact Classical.not_not.1 ‹_›); omega)) | (have := c2 (by first | assumption | exact Classical.not_not.1 ‹_›); omega) | (have := c3 j (by omega) (by omega); omega) | (have h4 := c4 i2 (by omega) (by omega); rw [← hri, show p.ln i2 = k2 by omega] at h4; omega) | (obtain ⟨c7, c8⟩ := c6 (by omega); omega) | exact n4 (by omega) | exact absurd (n4 (by omega)) ‹_›
             ·
              iterate 38 refine zlo ?_
              refine zlv xpf ?_
              refine zlv xas ?_
              refine zln <| ztn <| zrt <| zf1 ⟨_, rfl, ?_⟩
              exfalso
              first | omega | (have hb3 := hb2 i (by omega) (by omega); first | (have := hb3.1 (by omega); omega) | (have := hb3.2 (by first | assumption | exact Classical.not_not.1 ‹_›); omega)) | (have := c2 (by first | assumption | exact Classical.not_not.1 ‹_›); omega) | (have := c3 j (by omega) (by omega); omega) | (have h4 := c4 i2 (by omega) (by omega); rw [← hri, show p.ln i2 = k2 by omega] at h4; omega) | (obtain ⟨c7, c8⟩ := c6 (by omega); omega) | exact n4 (by omega) | exact absurd (n4 (by omega)) ‹_›
       ·
        iterate 3 refine zlo ?_
        iterate 2 refine zlv xpf ?_
        refine zln <| ztn <| zcf <| zsk <| ztn <| zsq <| zrg ?_
        refine zlv xas ?_
        refine zln <| ztn <| zsq <| zsq <| zrg ?_
        refine zlv xmv ?_
        refine zlv (xln sl_22 hxry1) ?_
        refine zlv xmv ?_
        refine zln <| ztn <| zbk <| zlp (fun mm M w => ∃ (y : Int) (j : Int), mm = ((xny1 - j).toNat) ∧ (0 ≤ j) ∧ (j ≤ xny1) ∧ (y = dotp p.c xfy1 j.toNat) ∧ M = [(2, .pointer (some ⟨g1, 0, none⟩)), (5, xry1), (6, .int .i64 vay1), (7, .int .i64 cuy1), (12, xry2), (13, .int .i64 ey2), (15, .int .i64 y), (122, .int .i64 xny1), (123, .int .i64 j)] ∧ Sat w0 w [.blk g1 [vc, vA, vb], .own xry1 1 3 xny1 (ints xfy1), .own wrz1 1 3 wnz1 (ints wfz1), .own xry2 1 3 xny2 (ints xfy2)]) ⟨0, 0, rfl, (by omega), (by omega), ?_, rfl, hS⟩ ?_
        ·
         rfl
        ·
         clear hS w
         rintro mm M w ⟨y, j, rfl, j0, j1, hy, rfl, hS⟩
         refine zsq <| zrg ?_
         refine zlv xlss ?_
         refine zln <| ztn <| zsq ?_
         refine zcif ?_ ?_ <;> intro hc
         ·
          refine zsk <| ztn <| zsq <| zbk <| zsq <| zrg ?_
          refine zlv xmv ?_
          refine zlv xas ?_
          refine zln <| ztn <| zsq <| zsq <| zrg ?_
          iterate 2 refine zlv xmv ?_
          refine zlv (xix (kk := j) sl_22 hxry1) ?_
          refine zlv (xlr (u := .int .i64 (xfy1 j)) pl_3 (hS.rowN 1 rfl)) ?_
          refine zlv xlss ?_
          refine zln <| ztn ?_
          refine zcif ?_ ?_ <;> intro hc
          ·
           refine zsq <| zrg ?_
           refine zlv xas ?_
           refine zln <| ztn <| zrt <| ztr <| zbr <| ztr <| ztr <| zbr <| ztr <| zf1 ⟨_, rfl, ?_⟩
           exfalso
           first | omega | (have hb3 := hb2 i (by omega) (by omega); first | (have := hb3.1 (by omega); omega) | (have := hb3.2 (by first | assumption | exact Classical.not_not.1 ‹_›); omega)) | (have := c2 (by first | assumption | exact Classical.not_not.1 ‹_›); omega) | (have := c3 j (by omega) (by omega); omega) | (have h4 := c4 i2 (by omega) (by omega); rw [← hri, show p.ln i2 = k2 by omega] at h4; omega) | (obtain ⟨c7, c8⟩ := c6 (by omega); omega) | exact n4 (by omega) | exact absurd (n4 (by omega)) ‹_›
          ·
           refine zsk <| ztn ?_
           refine zdst [0, 1, 2, 3] [0, 1, 2, 3] 1000 mx_ hS ?_; clear hS; intro w hS
           refine zdv 0 (fun _ => xmv) ?_
           refine zdv 1 (fun _ => (xfb 0 fd_44_0)) ?_
           refine zdla 2 (fun w hS => (xlb 0 pl_22 hS)) ?_
           refine zdv 3 (fun _ => xmv) ?_
           refine zdv 4 (fun _ => (xix (kk := j) sl_22 hL.c.slh)) ?_
           refine zdla 5 (fun w hS => (xlr (u := .int .i64 (p.c j)) pl_3 (hL.c.below hS.below))) ?_
           refine zdv 6 (fun _ => xmv) ?_
           refine zdv 7 (fun _ => xmv) ?_
           refine zdv 8 (fun _ => (xix (kk := j) sl_22 hxry1)) ?_
           refine zdla 9 (fun w hS => (xlr (u := .int .i64 (xfy1 j)) pl_3 (hS.rowN 1 rfl))) ?_
           have hcj := c3 j (by omega) (by omega)
           have hmu2 := mul_abs (a := p.c j) (b := xfy1 j) (A := 1000000) (B := 1073741824) (by have := hl.c j j0 (by omega); omega) (by omega)
           have hbd := dotp_bd (f := p.c) (g := xfy1) (A := 1000000) (B := 1073741824) (by omega) (by omega) j.toNat (fun k k0 k1 => by have := hl.c k k0 (by omega); omega) (fun k k0 k1 => by have := c3 k k0 (by omega); omega)
           refine zdv 10 (fun _ => (xmul (r := ((p.c j) * (xfy1 j))) (e := rfl))) ?_
           refine zdv 11 (fun _ => (xadd (r := y + ((p.c j) * (xfy1 j))))) ?_
           refine zdv 12 (fun _ => xas) ?_
           refine zdd <| zbn <| ztn <| zrg ?_
           refine zlv (xadd (r := j + 1)) ?_
           refine zlv xmv ?_
           refine zln <| zlq ⟨y + ((p.c j) * (xfy1 j)), j + 1, rfl, (by omega), (by omega), ?_, rfl, hS⟩
           ·
            rw [dotp_next _ _ j0, ← hy]
         ·
          refine zxt <| ztx <| ztx <| zbh <| ztn <| zsq <| zsq <| zrg ?_
          refine zlv (xfb 1 fd_44_1) ?_
          refine zlv (xlb 0 pl_23 hS) ?_
          refine zlv (xln sl_23 hL.A.row.slh) ?_
          refine zlv xmv ?_
          refine zln <| ztn <| zbk <| zlp (fun mm M w => ∃ (i2 : Int), mm = ((p.m - i2).toNat) ∧ (0 ≤ i2) ∧ (i2 ≤ p.m) ∧ M = [(2, .pointer (some ⟨g1, 0, none⟩)), (5, xry1), (6, .int .i64 vay1), (7, .int .i64 cuy1), (12, xry2), (13, .int .i64 ey2), (15, .int .i64 y), (145, vA), (146, .int .i64 p.m), (147, .int .i64 i2)] ∧ Sat w0 w [.blk g1 [vc, vA, vb], .own xry1 1 3 xny1 (ints xfy1), .own wrz1 1 3 wnz1 (ints wfz1), .own xry2 1 3 xny2 (ints xfy2)]) ⟨0, rfl, (by omega), (by omega), rfl, hS⟩ ?_
          ·
           clear hS w
           rintro mm M w ⟨i2, rfl, h0, h1, rfl, hS⟩
           refine zsq <| zrg ?_
           refine zlv xlss ?_
           refine zln <| ztn <| zsq ?_
           refine zcif ?_ ?_ <;> intro hc
           ·
            refine zsk <| ztn <| zsq <| zbk <| zsq <| zrg ?_
            refine zlv xmv ?_
            have hri := (hl.rows i2 h0 (by omega)).1
            refine zlv (xix (kk := i2) sl_23 hL.A.row.slh) ?_
            refine zlv (xlr (u := (vq i2)) pl_22 (hL.A.row.below hS.below)) ?_
            iterate 2 refine zlv xas ?_
            refine zln <| ztn <| zsq <| zrg ?_
            refine zlv xas ?_
            refine zln <| ztn <| zsq <| zsq <| zrg ?_
            refine zlv xmv ?_
            refine zlv (xln sl_22 (hL.A.p i2 (by omega) (by omega)).slh) ?_
            refine zlv xmv ?_
            refine zln <| ztn <| zbk <| zlp (fun mm M w => ∃ (z : Int) (k2 : Int), mm = ((p.ln i2 - k2).toNat) ∧ (0 ≤ k2) ∧ (k2 ≤ p.ln i2) ∧ (z = dotp (p.A i2) xfy1 k2.toNat) ∧ M = [(2, .pointer (some ⟨g1, 0, none⟩)), (5, xry1), (6, .int .i64 vay1), (7, .int .i64 cuy1), (12, xry2), (13, .int .i64 ey2), (15, .int .i64 y), (17, .int .i64 i2), (18, (vq i2)), (19, .int .i64 z), (145, vA), (146, .int .i64 p.m), (147, .int .i64 i2), (153, .int .i64 (p.ln i2)), (154, .int .i64 k2)] ∧ Sat w0 w [.blk g1 [vc, vA, vb], .own xry1 1 3 xny1 (ints xfy1), .own wrz1 1 3 wnz1 (ints wfz1), .own xry2 1 3 xny2 (ints xfy2)]) ⟨0, 0, rfl, (by omega), (by omega), ?_, rfl, hS⟩ ?_
            ·
             rfl
            ·
             clear hS w
             rintro mm M w ⟨z, k2, rfl, k0, k1, hz, rfl, hS⟩
             refine zsq <| zrg ?_
             refine zlv xlss ?_
             refine zln <| ztn <| zsq ?_
             refine zcif ?_ ?_ <;> intro hc
             ·
              refine zsk <| ztn <| zsq <| zbk <| zsq <| zrg ?_
              refine zlv xmv ?_
              refine zlv xas ?_
              refine zln <| ztn ?_
              refine zdst [0, 1, 2, 3] [0, 1, 2, 3] 1000 mx_ hS ?_; clear hS; intro w hS
              refine zdv 0 (fun _ => xmv) ?_
              refine zdv 1 (fun _ => xmv) ?_
              refine zdv 2 (fun _ => xmv) ?_
              refine zdv 3 (fun _ => (xix (kk := k2) sl_22 (hL.A.p i2 (by omega) (by omega)).slh)) ?_
              refine zdla 4 (fun w hS => (xlr (u := .int .i64 ((p.A i2) k2)) pl_3 ((hL.A.p i2 (by omega) (by omega)).below hS.below))) ?_
              refine zdv 5 (fun _ => xmv) ?_
              refine zdv 6 (fun _ => xmv) ?_
              refine zdv 7 (fun _ => (xix (kk := k2) sl_22 hxry1)) ?_
              refine zdla 8 (fun w hS => (xlr (u := .int .i64 (xfy1 k2)) pl_3 (hS.rowN 1 rfl))) ?_
              have hcj := c3 k2 (by omega) (by omega)
              have hmu2 := mul_abs ((hl.rows i2 h0 (by omega)).2 k2 k0 (by omega)) (b := xfy1 k2) (B := 1073741824) (by omega)
              have hbd := dotp_bd (f := p.A i2) (g := xfy1) (A := 1000000) (B := 1073741824) (by omega) (by omega) k2.toNat (fun k k0 k1 => (hl.rows i2 h0 (by omega)).2 k k0 (by omega)) (fun k k0 k1 => by have := c3 k k0 (by omega); omega)
              refine zdv 9 (fun _ => (xmul (r := (((p.A i2) k2) * (xfy1 k2))) (e := rfl))) ?_
              refine zdv 10 (fun _ => (xadd (r := z + (((p.A i2) k2) * (xfy1 k2))))) ?_
              refine zdv 11 (fun _ => xas) ?_
              refine zdd <| zbn <| ztn <| zrg ?_
              refine zlv (xadd (r := k2 + 1)) ?_
              refine zlv xmv ?_
              refine zln <| zlq ⟨z + (((p.A i2) k2) * (xfy1 k2)), k2 + 1, rfl, (by omega), (by omega), ?_, rfl, hS⟩
              ·
               rw [dotp_next _ _ k0, ← hz]
             ·
              refine zxt <| ztx <| ztx <| zbh <| ztn <| zsq <| zrg ?_
              refine zlv xmv ?_
              refine zlv (xfb 2 fd_44_2) ?_
              refine zlv (xlb 0 pl_22 hS) ?_
              refine zlv xmv ?_
              refine zlv (xix (kk := i2) sl_22 hL.b.slh) ?_
              refine zlv (xlr (u := .int .i64 (p.b i2)) pl_3 (hL.b.below hS.below)) ?_
              refine zlv xlss ?_
              refine zln <| ztn ?_
              refine zcif ?_ ?_ <;> intro hc
              ·
               refine zsq <| zrg ?_
               refine zlv xas ?_
               refine zln <| ztn <| zrt <| zbr <| ztr <| ztr <| zbr <| ztr <| zf1 ⟨_, rfl, ?_⟩
               exfalso
               first | omega | (have hb3 := hb2 i (by omega) (by omega); first | (have := hb3.1 (by omega); omega) | (have := hb3.2 (by first | assumption | exact Classical.not_not.1 ‹_›); omega)) | (have := c2 (by first | assumption | exact Classical.not_not.1 ‹_›); omega) | (have := c3 j (by omega) (by omega); omega) | (have h4 := c4 i2 (by omega) (by omega); rw [← hri, show p.ln i2 = k2 by omega] at h4; omega) | (obtain ⟨c7, c8⟩ := c6 (by omega); omega) | exact n4 (by omega) | exact absurd (n4 (by omega)) ‹_›
              ·
               refine zsk <| zbn <| ztn <| zrg ?_
               refine zlv (xadd (r := i2 + 1)) ?_
               refine zlv xmv ?_
               refine zln <| zlq ⟨i2 + 1, rfl, (by omega), (by omega), rfl, hS⟩
           ·
            refine zxt <| ztx <| ztx <| zbh <| ztn <| zsq <| zrg ?_
            refine zlv xmv ?_
            obtain rfl : j = xny1 := by omega
            have hsum : y = vay1 := by rw [hy, c1]; exact c5
            refine zlv xmv ?_
            refine zlv xeql ?_
            refine zlv xmv ?_
            refine zlb 180 ?_ ?_ <;> intro hc
            ·
             refine zlv xmv ?_
             refine zlv xneq ?_
             refine zlv xmv ?_
             refine zlb 183 ?_ ?_ <;> intro hc
             ·
              iterate 34 refine zlo ?_
              iterate 2 refine zlv xpt ?_
              refine zlv xas ?_
              refine zln <| ztn <| zrt <| zf1 ⟨_, rfl, ?_⟩
              exact ⟨rfl, hS.nl⟩
             ·
              refine zlv xmv ?_
              obtain ⟨c7, c8⟩ := c6 (by omega)
              obtain ⟨hb1, _⟩ := bounds_law hm hl (by have h9 := hgby2; rwa [show ey2 = 0 by omega] at h9) (fun j _ _ => (whv_rng (mu := mu) hub j).1) hwhz1
              refine zlv (xln sl_22 hxry2) ?_
              refine zlv xgtr ?_
              refine zlv xmv ?_
              refine zlb 187 ?_ ?_ <;> intro hc
              ·
               iterate 2 refine zlv xmv ?_
               refine zlv (xln sl_22 hxry2) ?_
               refine zlv (xsub (r := xny2 - 1)) ?_
               refine zlv (xix (kk := xny2 - 1) sl_22 hxry2) ?_
               refine zlv (xlr (u := .int .i64 (xfy2 (xny2 - 1))) pl_3 (hS.rowN 3 rfl)) ?_
               refine zlv xmv ?_
               refine zlv xleq ?_
               refine zlv xpt ?_
               refine zlv xmv ?_
               refine zlb 197 ?_ ?_ <;> intro hc
               ·
                refine zlv xmv ?_
                refine zlv xgtr ?_
                refine zlv xmv ?_
                refine zlb 200 ?_ ?_ <;> intro hc
                ·
                 iterate 15 refine zlo ?_
                 iterate 2 refine zlv xpt ?_
                 refine zlv xpf ?_
                 refine zlv xpt ?_
                 refine zlv xas ?_
                 refine zln <| ztn <| zrt <| zf1 ⟨_, rfl, ?_⟩
                 exact ⟨rfl, hS.nl⟩
                ·
                 iterate 2 refine zlv xmv ?_
                 refine zlv (xln sl_22 hxry2) ?_
                 refine zlv (xsub (r := xny2 - 1)) ?_
                 refine zlv (xix (kk := xny2 - 1) sl_22 hxry2) ?_
                 refine zlv (xlr (u := .int .i64 (xfy2 (xny2 - 1))) pl_3 (hS.rowN 3 rfl)) ?_
                 refine zlv xmv ?_
                 refine zlv xeql ?_
                 refine zlv xmv ?_
                 refine zlb 209 ?_ ?_ <;> intro hc
                 ·
                  refine zlv xmv ?_
                  refine zlv (xln sl_22 hxry2) ?_
                  refine zlv xmv ?_
                  refine zlv (xadd (r := cuy1 + 1)) ?_
                  refine zlv xeql ?_
                  refine zlv xpt ?_
                  refine zlv xpf ?_
                  refine zlv xpt ?_
                  refine zlv xpf ?_
                  refine zlv xpt ?_
                  refine zlv xas ?_
                  refine zln <| ztn <| zrt <| zf1 ⟨_, rfl, ?_⟩
                  exact ⟨(true_B (by first | omega | (have hb3 := hb2 i (by omega) (by omega); first | (have := hb3.1 (by omega); omega) | (have := hb3.2 (by first | assumption | exact Classical.not_not.1 ‹_›); omega)) | (have := c2 (by first | assumption | exact Classical.not_not.1 ‹_›); omega) | (have := c3 j (by omega) (by omega); omega) | (have h4 := c4 i2 (by omega) (by omega); rw [← hri, show p.ln i2 = k2 by omega] at h4; omega) | (obtain ⟨c7, c8⟩ := c6 (by omega); omega) | exact n4 (by omega) | exact absurd (n4 (by omega)) ‹_›)).symm, hS.nl⟩
                 ·
                  iterate 5 refine zlo ?_
                  iterate 2 refine zlv xpf ?_
                  refine zlv xpt ?_
                  refine zlv xpf ?_
                  refine zlv xpt ?_
                  refine zlv xas ?_
                  refine zln <| ztn <| zrt <| zf1 ⟨_, rfl, ?_⟩
                  exfalso
                  first | omega | (have hb3 := hb2 i (by omega) (by omega); first | (have := hb3.1 (by omega); omega) | (have := hb3.2 (by first | assumption | exact Classical.not_not.1 ‹_›); omega)) | (have := c2 (by first | assumption | exact Classical.not_not.1 ‹_›); omega) | (have := c3 j (by omega) (by omega); omega) | (have h4 := c4 i2 (by omega) (by omega); rw [← hri, show p.ln i2 = k2 by omega] at h4; omega) | (obtain ⟨c7, c8⟩ := c6 (by omega); omega) | exact n4 (by omega) | exact absurd (n4 (by omega)) ‹_›
               ·
                iterate 19 refine zlo ?_
                iterate 2 refine zlv xpf ?_
                refine zlv xpt ?_
                refine zlv xas ?_
                refine zln <| ztn <| zrt <| zf1 ⟨_, rfl, ?_⟩
                exfalso
                first | omega | (have hb3 := hb2 i (by omega) (by omega); first | (have := hb3.1 (by omega); omega) | (have := hb3.2 (by first | assumption | exact Classical.not_not.1 ‹_›); omega)) | (have := c2 (by first | assumption | exact Classical.not_not.1 ‹_›); omega) | (have := c3 j (by omega) (by omega); omega) | (have h4 := c4 i2 (by omega) (by omega); rw [← hri, show p.ln i2 = k2 by omega] at h4; omega) | (obtain ⟨c7, c8⟩ := c6 (by omega); omega) | exact n4 (by omega) | exact absurd (n4 (by omega)) ‹_›
              ·
               iterate 8 refine zlo ?_
               refine zlv xpf ?_
               refine zlv xmv ?_
               iterate 19 refine zlo ?_
               iterate 2 refine zlv xpf ?_
               refine zlv xpt ?_
               refine zlv xas ?_
               refine zln <| ztn <| zrt <| zf1 ⟨_, rfl, ?_⟩
               exfalso
               first | omega | (have hb3 := hb2 i (by omega) (by omega); first | (have := hb3.1 (by omega); omega) | (have := hb3.2 (by first | assumption | exact Classical.not_not.1 ‹_›); omega)) | (have := c2 (by first | assumption | exact Classical.not_not.1 ‹_›); omega) | (have := c3 j (by omega) (by omega); omega) | (have h4 := c4 i2 (by omega) (by omega); rw [← hri, show p.ln i2 = k2 by omega] at h4; omega) | (obtain ⟨c7, c8⟩ := c6 (by omega); omega) | exact n4 (by omega) | exact absurd (n4 (by omega)) ‹_›
            ·
             iterate 38 refine zlo ?_
             refine zlv xpf ?_
             refine zlv xas ?_
             refine zln <| ztn <| zrt <| zf1 ⟨_, rfl, ?_⟩
             exfalso
             first | omega | (have hb3 := hb2 i (by omega) (by omega); first | (have := hb3.1 (by omega); omega) | (have := hb3.2 (by first | assumption | exact Classical.not_not.1 ‹_›); omega)) | (have := c2 (by first | assumption | exact Classical.not_not.1 ‹_›); omega) | (have := c3 j (by omega) (by omega); omega) | (have h4 := c4 i2 (by omega) (by omega); rw [← hri, show p.ln i2 = k2 by omega] at h4; omega) | (obtain ⟨c7, c8⟩ := c6 (by omega); omega) | exact n4 (by omega) | exact absurd (n4 (by omega)) ‹_›

end Go.Proofs.Ytelfplepnodbgaa
