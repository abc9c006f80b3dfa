/- The walk of TableauRefuted. -/
import Derived.Test.YtakgjpmhbfieeaaGc
import Derived.Test.YtakgjpmhbfieeaaW19
namespace Go.Proofs.Ytakgjpmhbfieeaa
open Go Go.RowKit Go.Proofs.Gw
set_option linter.unusedVariables false

theorem cl_34 : calledT Try.prog 34 = true := by kernel_rfl
set_option maxRecDepth 20000 in
theorem law_refuted {vc vA vb : Value} {vq : Int → Value} {p : Lp} {vu : Value} {mu : Int} {fu : Int → Int} (w0 : World) (hL : LAt w0 vc vA vb vq p) (hU : Row w0 vu 1 mu (fun k => .int .u8 (fu k))) (hub : ∀ k, 0 ≤ fu k ∧ fu k ≤ 255) :
    Calls Try.prog 11 [.agg #[vc, vA, vb], vu].toArray w0 fun e w => ∃ v, e = .returned v ∧ v = .bool true ∧ Sat w0 w [] := by
  have hn := hL.c.slh.n0; have hn1 := hL.c.slh.n1; have hm := hL.A.row.slh.n0; have hm1 := hL.A.row.slh.n1; have hk := hL.b.slh.n0; have hk1 := hL.b.slh.n1
  have hmu := hU.slh.n0; have hmu1 := hU.slh.n1
  refine zenG Try.func11 Try.ntmps11 fun w hS => ?_
  refine zsq <| zrg ?_
  refine zla (xbx (cs := [_, _, _]) hS) ?_; rintro _ w ⟨g1, rfl, hS⟩
  replace hS : Sat w0 w [.blk _ [_, _, _]] := hS
  refine zlv xas ?_
  refine zln <| ztn <| zsq <| zsq <| zrg ?_
  refine zlc (xc0 cl_12) (c_awake w) ?_; rintro _ w ⟨rfl, hS'⟩
  replace hS := hS.cmp hS'; clear hS'
  refine zlv xnt ?_
  refine zlv xmv ?_
  refine zlv (xls 0 st_25 hS) ?_
  refine zlc (xc0 cl_13) (c_few (p := p) w (hL.below hS.below)) ?_; rintro _ w ⟨rfl, hS'⟩
  replace hS := hS.cmp hS'; clear hS'
  refine zlv xnot ?_
  refine zlv xpf ?_
  refine zlv xmv ?_
  refine zlb 20 ?_ ?_ <;> intro hc
  ·
   iterate 3 refine zlo ?_
   refine zlv xpt ?_
   refine zln <| ztn <| zct <| zsq <| zrg ?_
   refine zlc (xc0 cl_12) (c_awake w) ?_; rintro _ w ⟨rfl, hS'⟩
   replace hS := hS.cmp hS'; clear hS'
   refine zlv xas ?_
   refine zln <| ztn <| zrt <| ztr <| zf1 ⟨_, rfl, ?_⟩
   exact ⟨rfl, hS.nl⟩
  ·
   refine zlv (xls 0 st_25 hS) ?_
   refine zlc (xc0 cl_14) (c_rvalid (p := p) w (hL.below hS.below)) ?_; rintro _ w ⟨rfl, hS'⟩
   replace hS := hS.cmp hS'; clear hS'
   refine zlv xnot ?_
   refine zlv xpf ?_
   refine zln <| ztn ?_
   refine zcif ?_ ?_ <;> intro hc
   ·
    refine zsq <| zrg ?_
    refine zlc (xc0 cl_12) (c_awake w) ?_; rintro _ w ⟨rfl, hS'⟩
    replace hS := hS.cmp hS'; clear hS'
    refine zlv xas ?_
    refine zln <| ztn <| zrt <| ztr <| zf1 ⟨_, rfl, ?_⟩
    exact ⟨rfl, hS.nl⟩
   ·
    refine zsk <| ztn <| zsq <| zrg ?_
    refine zlv (xls 0 st_25 hS) ?_
    have hl : LOk p := by first | assumption | exact Classical.not_not.1 ‹¬ ¬ (LOk p)›
    have b1 := hl.n1; have b2 := hl.n2; have b3 := hl.m2; have b4 := hl.k
    refine zlc (xc0 cl_16) (c_own (p := p) w (hL.below hS.below)) ?_; rintro _ w ⟨rfl, hS'⟩
    replace hS := hS.cmp hS'; clear hS'
    refine zlc (xc0 cl_15) (c_solve (p := p) w (hL.below hS.below)) ?_; rintro _ w ⟨vXs1, vYs1, ss1, es1, rfl, hsos1, hvXs1, hvYs1, hS'⟩
    replace hS : Sat w0 w [.blk g1 [vc, vA, vb], .own vXs1 1 3 ss1.n (ints ss1.X), .own vYs1 1 3 ss1.m (ints ss1.Y)] := hS.comp hS'; clear hS'
    refine zlv xmv ?_
    iterate 2 refine zlv xex ?_
    refine zla (xal (cs := [_, _, _, _]) el_30 hS) ?_; rintro _ w ⟨g2, rfl, hS⟩
    replace hS : Sat w0 w [.blk _ [_, _, _], _, _, .blk _ [_, _, _, _]] := hS
    refine zle (xsw 3 st_30 hS (hd := (ones_cons hvXs1.one (ones_cons hvYs1.one (ones_cons rfl (ones_cons rfl ones_nil)))))) ?_; clear hS; rintro w hS
    replace hS : Sat w0 w [.blk _ [_, _, _], _, _, .blk _ [_, _, _, _]] := hS
    refine zlv xas ?_
    refine zln <| ztn <| zsq <| zrg ?_
    refine zlv (xls 0 st_25 hS) ?_
    refine zlc (xc0 cl_16) (c_own (p := p) w (hL.below hS.below)) ?_; rintro _ w ⟨rfl, hS'⟩
    replace hS := hS.cmp hS'; clear hS'
    refine zlc (xc0 cl_34) (c_refute (p := p) w (hL.below hS.below)) ?_; rintro _ w ⟨vyz1, yz1, myz1, fz1, rfl, hrefz1, hvyz1, hS'⟩
    replace hS : Sat w0 w [.blk g1 [vc, vA, vb], .own vXs1 1 3 ss1.n (ints ss1.X), .own vYs1 1 3 ss1.m (ints ss1.Y), .blk g2 [vXs1, vYs1, .int .i64 ss1.val, .int .i64 ss1.den], .own vyz1 1 3 myz1 (ints yz1)] := hS.comp hS'; clear hS'
    have hrl := refute_law hl hm hsos1 hrefz1
    refine zlv xmv ?_
    iterate 2 refine zlv xex ?_
    iterate 2 refine zlv xas ?_
    refine zln <| ztn <| zsq <| zsq <| zrg ?_
    refine zlv xmv ?_
    refine zlv xneq ?_
    refine zln <| ztn ?_
    refine zcif ?_ ?_ <;> intro hc
    ·
     refine zsq <| zrg ?_
     refine zlv xmv ?_
     refine zlv (xln sl_22 hvyz1) ?_
     refine zlv xeql ?_
     refine zlv xmv ?_
     refine zlb 43 ?_ ?_ <;> intro hc
     ·
      refine zlv xmv ?_
      refine zlv xeql ?_
      refine zlv xmv ?_
      refine zlb 46 ?_ ?_ <;> intro hc
      ·
       refine zlv xmv ?_
       refine zlv xeql ?_
       refine zlv xpt ?_
       refine zlv xmv ?_
       refine zlb 50 ?_ ?_ <;> intro hc
       ·
        iterate 7 refine zlo ?_
        iterate 2 refine zlv xpt ?_
        refine zlv xas ?_
        refine zln <| ztn <| zrt <| ztr <| zf1 ⟨_, rfl, ?_⟩
        exact ⟨rfl, hS.nl⟩
       ·
        refine zlv xmv ?_
        refine zlv (xkf xneq) ?_
        refine zlv xmv ?_
        iterate 3 refine zlo ?_
        iterate 2 refine zlv xpf ?_
        refine zlv xpt ?_
        refine zlv xas ?_
        refine zln <| ztn <| zrt <| ztr <| zf1 ⟨_, rfl, ?_⟩
        exfalso
        first
        | omega
        | exact absurd hprv ‹¬ _›
        | exact hno ‹_›
        | exact hno (Classical.not_not.1 ‹_›)
      ·
       iterate 2 refine zlo ?_
       refine zlv xpf ?_
       iterate 2 refine zlv xmv ?_
       refine zlv xneq ?_
       refine zlv xmv ?_
       refine zlb 53 ?_ ?_ <;> intro hc
       ·
        iterate 2 refine zlv xmv ?_
        refine zlv xeql ?_
        refine zlv xpt ?_
        refine zlv xpf ?_
        refine zlv xpt ?_
        refine zlv xas ?_
        refine zln <| ztn <| zrt <| ztr <| zf1 ⟨_, rfl, ?_⟩
        exact ⟨(true_B (by first | omega | exact hno)).symm, hS.nl⟩
       ·
        iterate 3 refine zlo ?_
        iterate 2 refine zlv xpf ?_
        refine zlv xpt ?_
        refine zlv xas ?_
        refine zln <| ztn <| zrt <| ztr <| zf1 ⟨_, rfl, ?_⟩
        exfalso
        first
        | omega
        | exact absurd hprv ‹¬ _›
        | exact hno ‹_›
        | exact hno (Classical.not_not.1 ‹_›)
     ·
      iterate 15 refine zlo ?_
      refine zlv xpf ?_
      refine zlv xas ?_
      refine zln <| ztn <| zrt <| ztr <| zf1 ⟨_, rfl, ?_⟩
      exfalso
      first
      | omega
      | exact absurd hprv ‹¬ _›
      | exact hno ‹_›
      | exact hno (Classical.not_not.1 ‹_›)
    ·
     refine zsk <| ztn <| zsq <| zrg ?_
     refine zlv (xfb 0 fd_25_0) ?_
     refine zlv (xlb 0 pl_22 hS) ?_
     refine zlv (xln sl_22 hL.c.slh) ?_
     refine zla (xmk sl_22 el_3 hS) ?_; rintro v1 w ⟨hS, hv1⟩
     replace hS : Sat w0 w [.blk _ [_, _, _], _, _, .blk _ [_, _, _, _], _, _] := hS
     refine zlv xas ?_
     refine zln <| ztn <| zsq <| zsq <| zrg ?_
     refine zlv xmv ?_
     refine zlv (xln sl_22 hv1) ?_
     refine zlv xmv ?_
     refine zln <| ztn <| zbk ?_
     have hl1 := hl.n1
     refine zlp (fun mm M w => ∃ (i : Int) (fO : Int → Int), mm = ((p.n - i).toNat) ∧ (0 ≤ i) ∧ (i ≤ p.n) ∧ (∀ k, 0 ≤ k → k < p.n → 0 ≤ fO k ∧ fO k ≤ 255) ∧ M = [(1, vu), (2, .pointer (some ⟨g1, 0, none⟩)), (4, .bool false), (7, vyz1), (8, .int .i64 fz1), (9, v1), (65, .int .i64 p.n), (66, .int .i64 i)] ∧ Sat w0 w [.blk g1 [vc, vA, vb], .own vXs1 1 3 ss1.n (ints ss1.X), .own vYs1 1 3 ss1.m (ints ss1.Y), .blk g2 [vXs1, vYs1, .int .i64 ss1.val, .int .i64 ss1.den], .own vyz1 1 3 myz1 (ints yz1), .own v1 1 3 p.n (ints fO)]) ⟨0, (fun _ => 0), rfl, (by omega), (by omega), ?_, rfl, hS⟩ ?_
     ·
      intro k k0 k1; exact ⟨Int.le_refl 0, show (0 : Int) ≤ 255 by decide⟩
     ·
      clear hS w
      rintro mm M w ⟨i, fO, rfl, h0, h1, hO, rfl, hS⟩
      refine zsq <| zrg ?_
      refine zlv xlss ?_
      refine zln <| ztn <| zsq ?_
      refine zcif ?_ ?_ <;> intro hc
      ·
       refine zsk <| ztn <| zsq <| zbk <| zsq <| zrg ?_
       refine zlv xmv ?_
       refine zlv xas ?_
       refine zln <| ztn <| zsq <| zrg ?_
       iterate 2 refine zlv xmv ?_
       refine zlv (xln sl_26 hU.slh) ?_
       refine zlv xlss ?_
       refine zln <| ztn ?_
       refine zcif ?_ ?_ <;> intro hc
       ·
        refine zrg ?_
        iterate 4 refine zlv xmv ?_
        refine zlv (xix (kk := i) sl_26 hU.slh) ?_
        refine zlv (xlr (u := .int .u8 (fu i)) pl_5 (hU.below hS.below)) ?_
        have hui := hub i
        refine zlv (xcv so_5 it_3) ?_
        refine zlv (xix (kk := i) sl_22 hv1) ?_
        refine zle (xso 5 pl_3 hS (upd_ints _ _ _)) ?_; clear hS; rintro w hS
        replace hS : Sat w0 w [.blk _ [_, _, _], _, _, .blk _ [_, _, _, _], _, _] := hS
        refine zln <| zbn <| ztn <| zrg ?_
        refine zlv (xadd (r := i + 1)) ?_
        refine zlv xmv ?_
        refine zln <| zlq ⟨i + 1, (upd fO i (fu i)), rfl, (by omega), (by omega), ?_, rfl, hS⟩
        ·
         first | exact hO | (intro k k0 k1; by_cases e : k = i
                             · rw [e, upd_self]; exact hub i
                             · rw [upd_ne _ _ e]; exact hO k k0 k1)
       ·
        refine zsk <| zbn <| ztn <| zrg ?_
        refine zlv (xadd (r := i + 1)) ?_
        refine zlv xmv ?_
        refine zln <| zlq ⟨i + 1, fO, rfl, (by omega), (by omega), ?_, rfl, hS⟩
        ·
         first | exact hO | (intro k k0 k1; by_cases e : k = i
                             · rw [e, upd_self]; exact hub i
                             · rw [upd_ne _ _ e]; exact hO k k0 k1)
      ·
       refine zxt <| ztx <| ztx <| zbh <| ztn <| zsq <| zrg ?_
       refine zlv (xls 0 st_25 hS) ?_
       have hxb : ∀ k, 0 ≤ k → k < p.n → -1073741824 ≤ fO k ∧ fO k ≤ 1073741824 := fun k k0 k1 => by have := hO k k0 k1; omega
       have hq : es1 = 19 ∧ fz1 = 0 ∧ myz1 = p.m ∧ RefS p yz1 := by
        rcases hrl with h | h | h
        · exact h
        · omega
        · omega
       have hprv : LOk p ∧ myz1 = p.m ∧ RefS p yz1 := ⟨hl, hq.2.2.1, hq.2.2.2⟩
       refine zlv xmv ?_
       refine zlc (xc0 cl_19) (c_permittedB (p := p) (x := fO) w (hL.below hS.below) hl (hS.rowN 5 rfl) hxb) ?_; rintro _ w ⟨cost, ok, rfl, hpm, hS'⟩
       replace hS := hS.cmp hS'; clear hS'
       have hno : ¬ ok = true := fun hok => by
        rcases hpm with ⟨_, _, h⟩ | ⟨h1, _, _⟩
        · rw [hok] at h; cases h
        · have := ref_none hq.2.2.2 hn hm (x := fO) (a := 1) (by omega) (fun k k0 k1 => (hO k k0 k1).1) (fun i i0 i1 => by have := h1 i i0 i1; omega)
          omega
       have hq1 := hq.1; have hq2 := hq.2.1; have hq3 := hq.2.2.1
       refine zlv xmv ?_
       iterate 2 refine zlv xex ?_
       iterate 2 refine zlv xas ?_
       refine zln <| ztn <| zsq <| zrg ?_
       refine zlv xmv ?_
       refine zlv xeql ?_
       refine zlv xmv ?_
       refine zlb 90 ?_ ?_ <;> intro hc
       ·
        refine zlv (xls 0 st_25 hS) ?_
        refine zlv xmv ?_
        refine zlc (xc0 cl_31) (c_rproves (p := p) (y := yz1) (my := myz1) w (hL.below hS.below) (hS.rowN 4 rfl)) ?_; rintro _ w ⟨rfl, hS'⟩
        replace hS := hS.cmp hS'; clear hS'
        refine zlv xpt ?_
        refine zlv xmv ?_
        refine zlb 95 ?_ ?_ <;> intro hc
        ·
         refine zlv (xls 0 st_25 hS) ?_
         refine zlc (xc0 cl_16) (c_own (p := p) w (hL.below hS.below)) ?_; rintro _ w ⟨rfl, hS'⟩
         replace hS := hS.cmp hS'; clear hS'
         refine zlv xmv ?_
         refine zlc (xc0 cl_30) (c_proves (p := p) (y := yz1) (my := myz1) w (hL.below hS.below) (hS.rowN 4 rfl)) ?_; rintro _ w ⟨rfl, hS'⟩
         replace hS := hS.cmp hS'; clear hS'
         refine zlv xpt ?_
         refine zlv xmv ?_
         refine zlb 101 ?_ ?_ <;> intro hc
         ·
          refine zlv xmv ?_
          refine zlv xnot ?_
          refine zlv xpt ?_
          refine zlv xas ?_
          refine zln <| ztn <| zrt <| zf1 ⟨_, rfl, ?_⟩
          exact ⟨(true_B (by first | omega | exact hno)).symm, hS.nl⟩
         ·
          iterate 2 refine zlo ?_
          refine zlv xpf ?_
          refine zlv xas ?_
          refine zln <| ztn <| zrt <| zf1 ⟨_, rfl, ?_⟩
          exfalso
          first
          | omega
          | exact absurd hprv ‹¬ _›
          | exact hno ‹_›
          | exact hno (Classical.not_not.1 ‹_›)
        ·
         iterate 4 refine zlo ?_
         refine zlv xpf ?_
         refine zlv xmv ?_
         iterate 2 refine zlo ?_
         refine zlv xpf ?_
         refine zlv xas ?_
         refine zln <| ztn <| zrt <| zf1 ⟨_, rfl, ?_⟩
         exfalso
         first
         | omega
         | exact absurd hprv ‹¬ _›
         | exact hno ‹_›
         | exact hno (Classical.not_not.1 ‹_›)
       ·
        iterate 3 refine zlo ?_
        refine zlv xpf ?_
        refine zlv xmv ?_
        iterate 4 refine zlo ?_
        refine zlv xpf ?_
        refine zlv xmv ?_
        iterate 2 refine zlo ?_
        refine zlv xpf ?_
        refine zlv xas ?_
        refine zln <| ztn <| zrt <| zf1 ⟨_, rfl, ?_⟩
        exfalso
        first
        | omega
        | exact absurd hprv ‹¬ _›
        | exact hno ‹_›
        | exact hno (Classical.not_not.1 ‹_›)

end Go.Proofs.Ytakgjpmhbfieeaa
