/- The walk of TableauOptimal. -/
import Derived.Test.YtakgjpmhbfieeaaGc
import Derived.Test.YtakgjpmhbfieeaaW15
namespace Go.Proofs.Ytakgjpmhbfieeaa
open Go Go.RowKit Go.Proofs.Gw
set_option linter.unusedVariables false

theorem cl_17 : calledT Try.prog 17 = true := by kernel_rfl
theorem cl_19 : calledT Try.prog 19 = true := by kernel_rfl
theorem pl_5 : plainT Try.prog 5 = true := by kernel_rfl
theorem sl_26 : sliceT Try.prog 26 = some (5, 1) := by kernel_rfl
theorem c_permittedB {vc vA vb : Value} {vq : Int → Value} {p : Lp} {vx : Value} {x : Int → Int} (w0 : World) (hL : LAt w0 vc vA vb vq p) (hl : LOk p) (hx : Row w0 vx 1 p.n (ints x)) (hxb : ∀ k, 0 ≤ k → k < p.n → -1073741824 ≤ x k ∧ x k ≤ 1073741824) : Calls Try.prog 19 [.agg #[vc, vA, vb], vx].toArray w0 fun e w => ∃ v, e = .returned v ∧ ∃ (c : Int) (ok : Bool), v = .tuple #[.int .i64 c, B (ok = true)] ∧ PermR p x c ok ∧ Sat w0 w [] :=
  (c_permitted w0 hL hl hx hxb).mono fun e w h => by
    obtain ⟨v, he, c, ok, hv, hn, hS⟩ := h
    exact ⟨v, he, c, ok, by rw [hv, bool_B], hn, hS⟩

set_option maxRecDepth 20000 in
theorem law_optimal {vc vA vb : Value} {vq : Int → Value} {p : Lp} {vu : Value} {mu : Int} {fu : Int → Int} (w0 : World) (hL : LAt w0 vc vA vb vq p) (hU : Row w0 vu 1 mu (fun k => .int .u8 (fu k))) (hub : ∀ k, 0 ≤ fu k ∧ fu k ≤ 255) :
    Calls Try.prog 3 [.agg #[vc, vA, vb], vu].toArray w0 fun e w => ∃ v, e = .returned v ∧ v = .bool true ∧ Sat w0 w [] := by
  have hn := hL.c.slh.n0; have hn1 := hL.c.slh.n1; have hm := hL.A.row.slh.n0; have hm1 := hL.A.row.slh.n1; have hk := hL.b.slh.n0; have hk1 := hL.b.slh.n1
  have hmu := hU.slh.n0; have hmu1 := hU.slh.n1
  refine zenG Try.func3 Try.ntmps3 fun w hS => ?_
  refine zsq <| zrg ?_
  refine zla (xbx (cs := [_, _, _]) hS) ?_; rintro _ w ⟨g1, rfl, hS⟩
  replace hS : Sat w0 w [.blk _ [_, _, _]] := hS
  refine zlv xas ?_
  refine zln <| ztn <| zsq <| zsq <| zrg ?_
  refine zlc (xc0 cl_12) (c_awake w) ?_; rintro _ w ⟨rfl, hS'⟩
  replace hS := hS.cmp hS'; clear hS'
  refine zlv xnt ?_
  refine zlv xmv ?_
  refine zlv (xls 0 st_25 hS) ?_
  refine zlc (xc0 cl_13) (c_few (p := p) w (hL.below hS.below)) ?_; rintro _ w ⟨rfl, hS'⟩
  replace hS := hS.cmp hS'; clear hS'
  refine zlv xnot ?_
  refine zlv xpf ?_
  refine zlv xmv ?_
  refine zlb 18 ?_ ?_ <;> intro hc
  ·
   iterate 3 refine zlo ?_
   refine zlv xpt ?_
   refine zln <| ztn <| zct <| zsq <| zrg ?_
   refine zlc (xc0 cl_12) (c_awake w) ?_; rintro _ w ⟨rfl, hS'⟩
   replace hS := hS.cmp hS'; clear hS'
   refine zlv xas ?_
   refine zln <| ztn <| zrt <| ztr <| zf1 ⟨_, rfl, ?_⟩
   exact ⟨rfl, hS.nl⟩
  ·
   refine zlv (xls 0 st_25 hS) ?_
   refine zlc (xc0 cl_14) (c_rvalid (p := p) w (hL.below hS.below)) ?_; rintro _ w ⟨rfl, hS'⟩
   replace hS := hS.cmp hS'; clear hS'
   refine zlv xnot ?_
   refine zlv xpf ?_
   refine zln <| ztn ?_
   refine zcif ?_ ?_ <;> intro hc
   ·
    refine zsq <| zrg ?_
    refine zlc (xc0 cl_12) (c_awake w) ?_; rintro _ w ⟨rfl, hS'⟩
    replace hS := hS.cmp hS'; clear hS'
    refine zlv xas ?_
    refine zln <| ztn <| zrt <| ztr <| zf1 ⟨_, rfl, ?_⟩
    exact ⟨rfl, hS.nl⟩
   ·
    refine zsk <| ztn <| zsq <| zrg ?_
    refine zlv (xls 0 st_25 hS) ?_
    have hl : LOk p := by first | assumption | exact Classical.not_not.1 ‹¬ ¬ (LOk p)›
    have b1 := hl.n1; have b2 := hl.n2; have b3 := hl.m2; have b4 := hl.k
    refine zlc (xc0 cl_16) (c_own (p := p) w (hL.below hS.below)) ?_; rintro _ w ⟨rfl, hS'⟩
    replace hS := hS.cmp hS'; clear hS'
    refine zlc (xc0 cl_15) (c_solve (p := p) w (hL.below hS.below)) ?_; rintro _ w ⟨vXs1, vYs1, ss1, es1, rfl, hsos1, hvXs1, hvYs1, hS'⟩
    replace hS : Sat w0 w [.blk g1 [vc, vA, vb], .own vXs1 1 3 ss1.n (ints ss1.X), .own vYs1 1 3 ss1.m (ints ss1.Y)] := hS.comp hS'; clear hS'
    refine zlv xmv ?_
    iterate 2 refine zlv xex ?_
    refine zla (xal (cs := [_, _, _, _]) el_30 hS) ?_; rintro _ w ⟨g2, rfl, hS⟩
    replace hS : Sat w0 w [.blk _ [_, _, _], _, _, .blk _ [_, _, _, _]] := hS
    refine zle (xsw 3 st_30 hS (hd := (ones_cons hvXs1.one (ones_cons hvYs1.one (ones_cons rfl (ones_cons rfl ones_nil)))))) ?_; clear hS; rintro w hS
    replace hS : Sat w0 w [.blk _ [_, _, _], _, _, .blk _ [_, _, _, _]] := hS
    refine zlv xas ?_
    refine zln <| ztn <| zsq <| zsq <| zrg ?_
    refine zlv xmv ?_
    refine zlv xneq ?_
    refine zln <| ztn ?_
    refine zcif ?_ ?_ <;> intro hc
    ·
     refine zsq <| zrg ?_
     refine zlv (xfb 3 fd_30_3) ?_
     refine zlv (xlb 3 pl_3 hS) ?_
     refine zlv xeql ?_
     refine zlv xmv ?_
     refine zlb 35 ?_ ?_ <;> intro hc
     ·
      refine zlv (xfb 0 fd_30_0) ?_
      refine zlv (xlb 3 pl_22 hS) ?_
      refine zlv (xln sl_22 hvXs1) ?_
      refine zlv xeql ?_
      refine zlv xpt ?_
      refine zlv xas ?_
      refine zln <| ztn <| zrt <| ztr <| zf1 ⟨_, rfl, ?_⟩
      have hz := hsos1.zero (by omega)
      exact ⟨(true_B (by rw [hz]; rfl)).symm, hS.nl⟩
     ·
      iterate 4 refine zlo ?_
      refine zlv xpf ?_
      refine zlv xas ?_
      refine zln <| ztn <| zrt <| ztr <| zf1 ⟨_, rfl, ?_⟩
      first
      | exact absurd hcs ‹¬ ChkS p ss1›
      | exact absurd (show ss1.den = 0 by rw [hsos1.zero (by omega)]; rfl) ‹¬ ss1.den = 0›
    ·
     refine zsk <| ztn <| zsq <| zsq ?_
     refine zdst [0, 1, 2, 3] [0, 1, 2, 3] 1000 mx_ hS ?_; clear hS; intro w hS
     refine zdla 0 (fun w hS => (xls 0 st_25 hS)) ?_
     refine zdla 1 (fun w hS => (xls 3 st_30 hS)) ?_
     have hcs := hsos1.chk (by omega) (by omega); have hfew : FewP p := by first | assumption | exact Classical.not_not.1 ‹_›
     have hf1 := hfew.2.1
     refine zdc 2 (xc0 cl_17) (c_rcheck (p := p) (s := ss1) w (hL.below hS.below) (hS.rowN 1 rfl) (hS.rowN 2 rfl)) ?_; rintro _ w ⟨rfl, hS'⟩
     replace hS := hS.cmp hS'; clear hS'
     refine ⟨⟨fun _ => hS, hS⟩, ?_⟩
     refine zdv 3 (fun _ => xnot) ?_
     refine zdv 4 (fun _ => xmv) ?_
     refine zdb 45 ?_ ?_ <;> intro hc
     ·
      refine zdof 5 ?_
      refine zdof 7 ?_
      refine zdof 6 ?_
      refine zdof 8 ?_
      refine zdof 9 ?_
      refine zdv 10 (fun _ => xpt) ?_
      refine zdd <| ztn <| zct <| zsq <| zrg ?_
      refine zlv xas ?_
      refine zln <| ztn <| zrt <| ztr <| zf1 ⟨_, rfl, ?_⟩
      first
      | exact absurd hcs ‹¬ ChkS p ss1›
      | exact absurd (show ss1.den = 0 by rw [hsos1.zero (by omega)]; rfl) ‹¬ ss1.den = 0›
     ·
      refine zdla 5 (fun w hS => (xls 0 st_25 hS)) ?_
      refine zdla 7 (fun w hS => (xls 3 st_30 hS)) ?_
      refine zdc 6 (xc0 cl_16) (c_own (p := p) w (hL.below hS.below)) ?_; rintro _ w ⟨rfl, hS'⟩
      replace hS := hS.cmp hS'; clear hS'
      refine ⟨⟨fun _ => hS, hS⟩, ?_⟩
      refine zdc 8 (xc0 cl_18) (c_check (p := p) (s := ss1) w (hL.below hS.below) (hS.rowN 1 rfl) (hS.rowN 2 rfl)) ?_; rintro _ w ⟨rfl, hS'⟩
      replace hS := hS.cmp hS'; clear hS'
      refine ⟨⟨fun _ => hS, hS⟩, ?_⟩
      refine zdv 9 (fun _ => xnot) ?_
      refine zdv 10 (fun _ => xpf) ?_
      refine zdd <| ztn ?_
      refine zcif ?_ ?_ <;> intro hc
      ·
       refine zsq <| zrg ?_
       refine zlv xas ?_
       refine zln <| ztn <| zrt <| ztr <| zf1 ⟨_, rfl, ?_⟩
       first
       | exact absurd hcs ‹¬ ChkS p ss1›
       | exact absurd (show ss1.den = 0 by rw [hsos1.zero (by omega)]; rfl) ‹¬ ss1.den = 0›
      ·
       refine zsk <| ztn <| zsq <| zrg ?_
       refine zlv (xfb 0 fd_25_0) ?_
       refine zlv (xlb 0 pl_22 hS) ?_
       have hcs := hsos1.chk (by omega) (by omega); have hfew : FewP p := by first | assumption | exact Classical.not_not.1 ‹_›
       have hf1 := hfew.2.1
       refine zlv (xln sl_22 hL.c.slh) ?_
       refine zla (xmk sl_22 el_3 hS) ?_; rintro v1 w ⟨hS, hv1⟩
       replace hS : Sat w0 w [.blk _ [_, _, _], _, _, .blk _ [_, _, _, _], _] := hS
       refine zlv xas ?_
       refine zln <| ztn <| zsq <| zsq <| zrg ?_
       refine zlv xmv ?_
       refine zlv (xln sl_22 hv1) ?_
       refine zlv xmv ?_
       refine zln <| ztn <| zbk ?_
       have hl1 := hl.n1
       refine zlp (fun mm M w => ∃ (i : Int) (fO : Int → Int), mm = ((p.n - i).toNat) ∧ (0 ≤ i) ∧ (i ≤ p.n) ∧ (∀ k, 0 ≤ k → k < p.n → 0 ≤ fO k ∧ fO k ≤ 255) ∧ M = [(1, vu), (2, .pointer (some ⟨g1, 0, none⟩)), (4, .bool false), (5, .pointer (some ⟨g2, 0, none⟩)), (7, v1), (57, .int .i64 p.n), (58, .int .i64 i)] ∧ Sat w0 w [.blk g1 [vc, vA, vb], .own vXs1 1 3 ss1.n (ints ss1.X), .own vYs1 1 3 ss1.m (ints ss1.Y), .blk g2 [vXs1, vYs1, .int .i64 ss1.val, .int .i64 ss1.den], .own v1 1 3 p.n (ints fO)]) ⟨0, (fun _ => 0), rfl, (by omega), (by omega), ?_, rfl, hS⟩ ?_
       ·
        intro k k0 k1; exact ⟨Int.le_refl 0, show (0 : Int) ≤ 255 by decide⟩
       ·
        clear hS w
        rintro mm M w ⟨i, fO, rfl, h0, h1, hO, rfl, hS⟩
        refine zsq <| zrg ?_
        refine zlv xlss ?_
        refine zln <| ztn <| zsq ?_
        refine zcif ?_ ?_ <;> intro hc
        ·
         refine zsk <| ztn <| zsq <| zbk <| zsq <| zrg ?_
         refine zlv xmv ?_
         refine zlv xas ?_
         refine zln <| ztn <| zsq <| zrg ?_
         iterate 2 refine zlv xmv ?_
         refine zlv (xln sl_26 hU.slh) ?_
         refine zlv xlss ?_
         refine zln <| ztn ?_
         refine zcif ?_ ?_ <;> intro hc
         ·
          refine zrg ?_
          iterate 4 refine zlv xmv ?_
          refine zlv (xix (kk := i) sl_26 hU.slh) ?_
          refine zlv (xlr (u := .int .u8 (fu i)) pl_5 (hU.below hS.below)) ?_
          have hui := hub i
          refine zlv (xcv so_5 it_3) ?_
          refine zlv (xix (kk := i) sl_22 hv1) ?_
          refine zle (xso 4 pl_3 hS (upd_ints _ _ _)) ?_; clear hS; rintro w hS
          replace hS : Sat w0 w [.blk _ [_, _, _], _, _, .blk _ [_, _, _, _], _] := hS
          refine zln <| zbn <| ztn <| zrg ?_
          refine zlv (xadd (r := i + 1)) ?_
          refine zlv xmv ?_
          refine zln <| zlq ⟨i + 1, (upd fO i (fu i)), rfl, (by omega), (by omega), ?_, rfl, hS⟩
          ·
           first | exact hO | (intro k k0 k1; by_cases e : k = i
                               · rw [e, upd_self]; exact hub i
                               · rw [upd_ne _ _ e]; exact hO k k0 k1)
         ·
          refine zsk <| zbn <| ztn <| zrg ?_
          refine zlv (xadd (r := i + 1)) ?_
          refine zlv xmv ?_
          refine zln <| zlq ⟨i + 1, fO, rfl, (by omega), (by omega), ?_, rfl, hS⟩
          ·
           first | exact hO | (intro k k0 k1; by_cases e : k = i
                               · rw [e, upd_self]; exact hub i
                               · rw [upd_ne _ _ e]; exact hO k k0 k1)
        ·
         refine zxt <| ztx <| ztx <| zbh <| ztn <| zsq <| zrg ?_
         refine zlv (xls 0 st_25 hS) ?_
         have hxb : ∀ k, 0 ≤ k → k < p.n → -1073741824 ≤ fO k ∧ fO k ≤ 1073741824 := fun k k0 k1 => by have := hO k k0 k1; omega
         refine zlv xmv ?_
         refine zlc (xc0 cl_19) (c_permittedB (p := p) (x := fO) w (hL.below hS.below) hl (hS.rowN 4 rfl) hxb) ?_; rintro _ w ⟨cost, ok, rfl, hpm, hS'⟩
         replace hS := hS.cmp hS'; clear hS'
         refine zlv xmv ?_
         iterate 2 refine zlv xex ?_
         iterate 2 refine zlv xas ?_
         refine zln <| ztn <| zsq <| zrg ?_
         refine zlv xmv ?_
         refine zlv xnot ?_
         refine zlv xmv ?_
         refine zlb 82 ?_ ?_ <;> intro hc
         ·
          iterate 7 refine zlo ?_
          refine zlv xpt ?_
          refine zlv xas ?_
          refine zln <| ztn <| zrt <| zf1 ⟨_, rfl, ?_⟩
          exact ⟨rfl, hS.nl⟩
         ·
          refine zlv xmv ?_
          have hok : ok = true := by first | assumption | exact Classical.not_not.1 ‹_›
          obtain ⟨hb1, hcost⟩ : (∀ i, 0 ≤ i → i < p.m → p.b i ≤ dotp (p.A i) fO p.n.toNat) ∧ cost = dotp p.c fO p.n.toNat := by
           rcases hpm with ⟨_, _, h⟩ | ⟨h1, h2, _⟩
           · rw [hok] at h; cases h
           · exact ⟨h1, h2⟩
          have hbest := chk_best hcs (by omega) (fun k k0 k1 => (hO k k0 k1).1) hb1; rw [← hcost] at hbest
          have hbd := dotp_bd (f := p.c) (g := fO) (A := 1000000) (B := 255) (by omega) (by omega) p.n.toNat (fun k k0 k1 => by have := hl.c k k0 (by omega); omega) (fun k k0 k1 => by have := hO k k0 (by omega); omega); rw [← hcost] at hbd
          have hsd := hcs.d1; have hsd2 := hcs.d2
          have hmu2 := mul_abs (a := cost) (A := 3060000000) (by omega) (show -1073741824 ≤ ss1.den ∧ ss1.den ≤ 1073741824 by omega)
          refine zlv (xfb 3 fd_30_3) ?_
          refine zlv (xlb 3 pl_3 hS) ?_
          refine zlv (xmul (r := (cost * ss1.den)) (e := rfl)) ?_
          refine zlv (xfb 2 fd_30_2) ?_
          refine zlv (xlb 3 pl_3 hS) ?_
          refine zlv xgeq ?_
          refine zlv xpf ?_
          refine zlv xas ?_
          refine zln <| ztn <| zrt <| zf1 ⟨_, rfl, ?_⟩
          exact ⟨(true_B hbest).symm, hS.nl⟩

end Go.Proofs.Ytakgjpmhbfieeaa
