/- The walk of Solve, of the reference. -/
import Derived.Test.YtelfplepnodbgaaGc
import Derived.Test.YtelfplepnodbgaaX7
namespace Go.Proofs.Ytelfplepnodbgaa
open Go Go.RowKit Go.Proofs.Gw
set_option linter.unusedVariables false

theorem cl_17 : calledT Try.prog 17 = true := by kernel_rfl
theorem cl_21 : calledT Try.prog 21 = true := by kernel_rfl
theorem cl_74 : calledT Try.prog 74 = true := by kernel_rfl
set_option maxRecDepth 20000 in
theorem c_rgsolve {vc vA vb : Value} {vq : Int → Value} {p : Lp} (w0 : World) (hL : LAt w0 vc vA vb vq p) :
    Calls Try.prog 30 [.agg #[vc, vA, vb]].toArray w0 fun e w => ∃ v, e = .returned v ∧ ∃ r n f val cuts e, v = .tuple #[r, .int .i64 val, .int .i64 cuts, .int .i64 e] ∧ RGSolveR p n f val cuts e ∧ Slh r n ∧ Sat w0 w [.own r 1 3 n (ints f)] := by
  have hn := hL.c.slh.n0; have hn1 := hL.c.slh.n1; have hm := hL.A.row.slh.n0; have hm1 := hL.A.row.slh.n1; have hk := hL.b.slh.n0; have hk1 := hL.b.slh.n1
  refine zenG Try.func30 Try.ntmps30 fun w hS => ?_
  refine zsq <| zrg ?_
  refine zla (xbx (cs := [_, _, _]) hS) ?_; rintro _ w ⟨g1, rfl, hS⟩
  replace hS : Sat w0 w [.blk _ [_, _, _]] := hS
  iterate 4 refine zlv xas ?_
  refine zln <| ztn <| zsq <| zrg ?_
  refine zlv (xls 0 st_44 hS) ?_
  refine zlc (xc0 cl_73) (c_rstart (p := p) w (hL.below hS.below)) ?_; rintro _ w ⟨vBk1, vFk1, vCk1, vvk1, tk1, ek1, rfl, hstk1, hsBk1, hsFk1, hsCk1, hS'⟩
  replace hS : Sat w0 w [.blk g1 [vc, vA, vb], .own vBk1 1 3 tk1.nb (ints tk1.B), .own vFk1 1 3 tk1.nf (ints tk1.F), .own vCk1 1 22 tk1.nc vvk1, .sem (Frame.rows 3 tk1.nc vvk1 tk1.ln tk1.C)] := hS.comp hS'; clear hS'
  have hrsk1 := fun k (k0 : 0 ≤ k) (k1 : k < tk1.nc) => hS.slhIn 4 rfl k0 k1
  refine zlv xmv ?_
  iterate 2 refine zlv xex ?_
  refine zla (xal (cs := [_, _, _, _, _]) el_25 hS) ?_; rintro _ w ⟨g2, rfl, hS⟩
  replace hS : Sat w0 w [.blk _ [_, _, _], _, _, _, _, .blk _ [_, _, _, _, _]] := hS
  refine zle (xsw 5 st_25 hS (hd := (ones_cons rfl (ones_cons rfl (ones_cons hsBk1.one (ones_cons hsFk1.one (ones_cons hsCk1.one ones_nil))))))) ?_; clear hS; rintro w hS
  replace hS : Sat w0 w [.blk _ [_, _, _], _, _, _, _, .blk _ [_, _, _, _, _]] := hS
  refine zlv xas ?_
  refine zln <| ztn <| zsq <| zrg ?_
  refine zlv xas ?_
  refine zln <| ztn <| zbk <| zlp (fun mm M w => ∃ (us : List Tb) (t : Tb) (vB : Value) (vF : Value) (vC : Value) (vv : Int → Value) (e : Int) (cu : Int), mm = (if e = 0 then (20 - t.nb).toNat else 0) ∧ (Rn p us t e) ∧ (Slh vB t.nb) ∧ (Slh vF t.nf) ∧ (Slh vC t.nc) ∧ (cu = us.length) ∧ (us.length ≤ 100 ∨ e ≠ 0) ∧ M = [(6, .pointer (some ⟨g2, 0, none⟩)), (7, .int .i64 e), (8, .int .i64 cu)] ∧ Sat w0 w [.blk g1 [vc, vA, vb], .blk g2 [.int .i64 t.vars, .int .i64 t.den, vB, vF, vC], .own vB 1 3 t.nb (ints t.B), .own vF 1 3 t.nf (ints t.F), .own vC 1 22 t.nc vv, .sem (Frame.rows 3 t.nc vv t.ln t.C)]) ⟨[], tk1, vBk1, vFk1, vCk1, vvk1, ek1, 0, rfl, ?_, ?_, ?_, ?_, ?_, ?_, rfl, hS.pk [0, 5, 1, 2, 3, 4]⟩ ?_
  ·
   exact .start hstk1
  ·
   exact hsBk1
  ·
   exact hsFk1
  ·
   exact hsCk1
  ·
   rfl
  ·
   left; simp
  ·
   clear hS w
   rintro mm M w ⟨us, t, vB, vF, vC, vv, e, cu, rfl, hRn, hsB, hsF, hsC, hnn, hul, rfl, hS⟩
   have hrs := fun k (k0 : 0 ≤ k) (k1 : k < t.nc) => hS.slhIn 5 rfl k0 k1
   refine zsq <| zbk <| zsq <| zsq <| zrg ?_
   refine zlv xmv ?_
   refine zlv xeql ?_
   refine zln <| ztn ?_
   refine zcif ?_ ?_ <;> intro hc
   ·
    refine zrg ?_
    refine zlv (xls 1 st_25 hS) ?_
    refine zlc (xc0 cl_74) (c_rOptimize (t := t) w (⟨(hS.rowN 2 rfl), (hS.rowN 3 rfl), (⟨(hS.rowN 4 rfl), fun k k0 k1 => hS.rowIn 5 rfl k0 k1, fun k k0 k1 => hS.roomIn 5 rfl k0 k1⟩ : MAt _ vC t.nc vv t.ln t.C)⟩ : TAt _ vB vF vC vv t)) ?_; rintro _ w ⟨vBk2, vFk2, vCk2, vvk2, tk2, ek2, rfl, hopk2, hsBk2, hsFk2, hsCk2, hS'⟩
    replace hS : Sat w0 w [.blk g1 [vc, vA, vb], .blk g2 [.int .i64 t.vars, .int .i64 t.den, vB, vF, vC], .own vB 1 3 t.nb (ints t.B), .own vF 1 3 t.nf (ints t.F), .own vC 1 22 t.nc vv, .sem (Frame.rows 3 t.nc vv t.ln t.C), .own vBk2 1 3 tk2.nb (ints tk2.B), .own vFk2 1 3 tk2.nf (ints tk2.F), .own vCk2 1 22 tk2.nc vvk2, .sem (Frame.rows 3 tk2.nc vvk2 tk2.ln tk2.C)] := hS.comp hS'; clear hS'
    have hrsk2 := fun k (k0 : 0 ≤ k) (k1 : k < tk2.nc) => hS.slhIn 9 rfl k0 k1
    refine zlv xmv ?_
    iterate 2 refine zlv xex ?_
    refine zle (xsw 1 st_25 hS (hd := (ones_cons rfl (ones_cons rfl (ones_cons hsBk2.one (ones_cons hsFk2.one (ones_cons hsCk2.one ones_nil))))))) ?_; clear hS; rintro w hS
    replace hS : Sat w0 w [.blk _ [_, _, _], .blk _ [_, _, _, _, _], _, _, _, _, _, _, _, _] := hS
    refine zlv xas ?_
    refine zln <| ztn <| zsq <| zsq <| zrg ?_
    refine zlv xmv ?_
    refine zlv xneq ?_
    refine zln <| ztn ?_
    refine zcif ?_ ?_ <;> intro hc
    ·
     refine zsq <| zrg ?_
     refine zlv xmv ?_
     iterate 4 refine zlv xas ?_
     refine zln <| ztn <| zrt <| ztr <| zbr <| ztr <| ztr <| zbr <| zf4 ⟨_, rfl, ?_⟩
     obtain rfl : e = 0 := by omega
     exact ⟨_, 0, fun _ => 0, 0, 0, _, rfl, .inl ⟨by omega, rfl, rfl, rfl, _, _, _, hRn, .inr ⟨rfl, _, hopk2⟩⟩, slh_nil, (hS.addnil 1 3 (ints fun _ => 0)).sub (.cons _ (.cons _ (.cons _ (.cons _ (.cons _ (.cons _ (.cons _ (.cons _ (.cons _ (.cons _ (.cons_cons _ .slnil)))))))))))⟩
    ·
     refine zsk <| ztn <| zsq <| zrg ?_
     refine zlv (xls 1 st_25 hS) ?_
     refine zlc (xc0 cl_17) (c_rfrac (t := tk2) w (⟨(hS.rowN 6 rfl), (hS.rowN 7 rfl), (⟨(hS.rowN 8 rfl), fun k k0 k1 => hS.rowIn 9 rfl k0 k1, fun k k0 k1 => hS.roomIn 9 rfl k0 k1⟩ : MAt _ vCk2 tk2.nc vvk2 tk2.ln tk2.C)⟩ : TAt _ vBk2 vFk2 vCk2 vvk2 tk2)) ?_; rintro _ w ⟨rf1, okf1, ef1, rfl, hfrf1, hS'⟩
     replace hS := hS.cmp hS'; clear hS'
     refine zlv xmv ?_
     iterate 3 refine zlv xex ?_
     iterate 3 refine zlv xas ?_
     refine zln <| ztn <| zsq <| zsq <| zrg ?_
     refine zlv xmv ?_
     obtain rfl : e = 0 := by omega
     have hop0 : OptR t tk2 0 := by have := hopk2; rwa [show ek2 = 0 by omega] at this
     have hpu := hop0.prp
     have hp := hpu.1
     have b1 := hp.n1
     have b2 := hp.n2
     have b3 := hp.m2
     have b4 := hp.v
     have b5 := hp.d1
     have b6 := hp.d2
     have b7 := hp.c
     obtain ⟨_, hfr1, hfr2, hfr3⟩ : TPrp tk2 ∧ rf1 = max (gfr tk2 tk2.nb.toNat) 0 ∧ (okf1 ↔ 0 ≤ gfr tk2 tk2.nb.toNat) ∧ ef1 = 0 := hfrf1.resolve_left (fun h => h.1 hpu.1)
     have hrr := hfrf1.rng
     have hbn := hpu.1.m2
     have hkn := hsBk2.n0
     refine zlv xnot ?_
     refine zln <| ztn ?_
     refine zcif ?_ ?_ <;> intro hc
     ·
      refine zsq <| zrg ?_
      refine zlv (xls 1 st_25 hS) ?_
      refine zlc (xc0 cl_75) (c_read (t := tk2) w (⟨(hS.rowN 6 rfl), (hS.rowN 7 rfl), (⟨(hS.rowN 8 rfl), fun k k0 k1 => hS.rowIn 9 rfl k0 k1, fun k k0 k1 => hS.roomIn 9 rfl k0 k1⟩ : MAt _ vCk2 tk2.nc vvk2 tk2.ln tk2.C)⟩ : TAt _ vBk2 vFk2 vCk2 vvk2 tk2) hp) ?_; rintro _ w ⟨rXr1, rYr1, rfl, hrXr1, hrYr1, hS'⟩
      replace hS : Sat w0 w [.blk g1 [vc, vA, vb], .blk g2 [.int .i64 tk2.vars, .int .i64 tk2.den, vBk2, vFk2, vCk2], .own vB 1 3 t.nb (ints t.B), .own vF 1 3 t.nf (ints t.F), .own vC 1 22 t.nc vv, .sem (Frame.rows 3 t.nc vv t.ln t.C), .own vBk2 1 3 tk2.nb (ints tk2.B), .own vFk2 1 3 tk2.nf (ints tk2.F), .own vCk2 1 22 tk2.nc vvk2, .sem (Frame.rows 3 tk2.nc vvk2 tk2.ln tk2.C), .own rXr1 1 3 tk2.nf (ints (rdX tk2 tk2.nb.toNat)), .own rYr1 1 3 tk2.nb (ints (rdY tk2 tk2.nf.toNat))] := hS.comp hS'; clear hS'
      refine zla (xal (cs := [_, _, _, _]) el_72 hS) ?_; rintro _ w ⟨g3, rfl, hS⟩
      replace hS : Sat w0 w [.blk _ [_, _, _], .blk _ [_, _, _, _, _], _, _, _, _, _, _, _, _, _, _, .blk _ [_, _, _, _]] := hS
      refine zle (xsw 12 st_72 hS (hd := (ones_cons hrXr1.one (ones_cons hrYr1.one (ones_cons rfl (ones_cons rfl ones_nil)))))) ?_; clear hS; rintro w hS
      replace hS : Sat w0 w [.blk _ [_, _, _], .blk _ [_, _, _, _, _], _, _, _, _, _, _, _, _, _, _, .blk _ [_, _, _, _]] := hS
      refine zln <| ztn <| zsq <| zrg ?_
      refine zlv xas ?_
      refine zln <| ztn <| zsq <| zsq <| zrg ?_
      refine zlv xas ?_
      refine zln <| ztn <| zbk ?_
      replace hS := hS.addnil 1 3 (ints (fun _ => 0))
      replace hS : Sat w0 w [.blk _ [_, _, _], .blk _ [_, _, _, _, _], _, _, _, _, _, _, _, _, _, _, .blk _ [_, _, _, _], _] := hS
      refine zlp (fun mm M w => ∃ (m : Int) (i : Int) (vx : Value) (g : Int → Int), mm = ((tk2.nf - i).toNat) ∧ (0 ≤ i) ∧ (i ≤ tk2.nf) ∧ (m = i) ∧ (∀ j, 0 ≤ j → j < m → g j = (rdX tk2 tk2.nb.toNat j).tdiv tk2.den) ∧ (Slh vx m) ∧ M = [(6, .pointer (some ⟨g2, 0, none⟩)), (7, .int .i64 ek2), (8, .int .i64 cu), (9, .int .i64 rf1), (12, .pointer (some ⟨g3, 0, none⟩)), (13, vx), (14, .int .i64 i)] ∧ Sat w0 w [.blk g1 [vc, vA, vb], .blk g2 [.int .i64 tk2.vars, .int .i64 tk2.den, vBk2, vFk2, vCk2], .own vB 1 3 t.nb (ints t.B), .own vF 1 3 t.nf (ints t.F), .own vC 1 22 t.nc vv, .sem (Frame.rows 3 t.nc vv t.ln t.C), .own vBk2 1 3 tk2.nb (ints tk2.B), .own vFk2 1 3 tk2.nf (ints tk2.F), .own vCk2 1 22 tk2.nc vvk2, .sem (Frame.rows 3 tk2.nc vvk2 tk2.ln tk2.C), .own rXr1 1 3 tk2.nf (ints (rdX tk2 tk2.nb.toNat)), .own rYr1 1 3 tk2.nb (ints (rdY tk2 tk2.nf.toNat)), .blk g3 [rXr1, rYr1, .int .i64 (tk2.C 0 0), .int .i64 tk2.den], .own vx 1 3 m (ints g)]) ⟨0, 0, (.slice none 0 0), (fun _ => 0), rfl, (by omega), (by omega), (by omega), ?_, ?_, rfl, hS⟩ ?_
      ·
       intro j j0 j1; omega
      ·
       exact slh_nil
      ·
       clear hS w
       rintro mm M w ⟨m, i, vx, g, rfl, h0, h1, hmi, hg, hvx, rfl, hS⟩
       refine zsq <| zsq <| zrg ?_
       refine zlv xmv ?_
       refine zlv (xfb 0 fd_72_0) ?_
       refine zlv (xlb 12 pl_22 hS) ?_
       refine zlv (xln sl_22 hrXr1) ?_
       refine zlv xlss ?_
       refine zln <| ztn ?_
       refine zcif ?_ ?_ <;> intro hc
       ·
        refine zsk <| ztn <| zsq <| zbk ?_
        refine zdst [0, 1, 10, 12] [0, 1, 10, 12] 1000 mx_ hS ?_; clear hS; intro w hS
        refine zdv 0 (fun _ => xmv) ?_
        have hqr := rdX_rng hp i tk2.nb.toNat (by omega)
        have hqd := tdiv_abs (a := rdX tk2 tk2.nb.toNat i) (d := tk2.den) (A := 1073741824) (by omega) hqr
        refine zdv 1 (fun _ => (xfb 0 fd_72_0)) ?_
        refine zdla 2 (fun w hS => (xlb 3 pl_22 hS)) ?_
        refine zdv 3 (fun _ => xmv) ?_
        refine zdv 4 (fun _ => (xix (kk := i) sl_22 hrXr1)) ?_
        refine zdla 5 (fun w hS => (xlr (u := .int .i64 (rdX tk2 tk2.nb.toNat i)) pl_3 (hS.rowN 2 rfl))) ?_
        refine zdv 6 (fun _ => (xfb 3 fd_72_3)) ?_
        refine zdla 7 (fun w hS => (xlb 3 pl_3 hS)) ?_
        refine zdv 8 (fun _ => (xquo (r := (Int.tdiv (rdX tk2 tk2.nb.toNat i) tk2.den)))) ?_
        refine zda 9 (xli (n := 1) (len := 1) (pv := [(0, .int .i64 (Int.tdiv (rdX tk2 tk2.nb.toNat i) tk2.den))]) (cs := [.int .i64 (Int.tdiv (rdX tk2 tk2.nb.toNat i) tk2.den)]) (c := ints (fun _ => (Int.tdiv (rdX tk2 tk2.nb.toNat i) tk2.den))) sl_22 el_3 hS) ?_; rintro v1 w ⟨hS, hv1⟩
        replace hS : Sat w0 w [.blk _ [_, _, _], .blk _ [_, _, _, _, _], _, _, _, _, _, _, _, _, _, _, .blk _ [_, _, _, _], _, _] := hS
        refine ⟨⟨fun _ => hS.pk [0, 1, 10, 12], hS.pk [0, 1, 10, 12]⟩, ?_⟩
        refine zda 10 (xap 13 (r := m + 1) sl_22 el_3 hS (hS.rowN 14 rfl) (cat_snoc _ _ _)) ?_; rintro v2 w ⟨hS, hv2⟩
        replace hS : Sat w0 w [.blk _ [_, _, _], .blk _ [_, _, _, _, _], _, _, _, _, _, _, _, _, _, _, .blk _ [_, _, _, _], _, _] := hS
        refine ⟨⟨fun _ => hS.pk [0, 1, 10, 12], hS.pk [0, 1, 10, 12]⟩, ?_⟩
        refine zdv 11 (fun _ => xas) ?_
        refine zdd <| zbn <| ztn <| zrg ?_
        refine zlv xmv ?_
        refine zlv (xadd (r := i + 1)) ?_
        refine zlv xas ?_
        refine zln <| zlq ⟨m + 1, i + 1, v2, (snoc g m (Int.tdiv (rdX tk2 tk2.nb.toNat i) tk2.den)), rfl, (by omega), (by omega), (by omega), ?_, ?_, rfl, hS.pk [0, 1, 2, 3, 4, 5, 6, 7, 8, 9, 10, 11, 12, 13]⟩
        ·
         intro j j0 j1; by_cases e : j < m
         · rw [snoc_lt e]; exact hg j j0 e
         · rw [snoc_at e, show j = i by omega]
        ·
         exact hv2
       ·
        refine zxt <| ztx <| ztx <| zbh <| ztn <| zsq ?_
        refine zdst [0, 1, 2, 3, 4, 5, 6, 7, 8, 9, 10, 11, 12, 13] [0, 1, 2, 3, 4, 5, 6, 7, 8, 9, 10, 11, 12, 13] 1000 mx_ hS ?_; clear hS; intro w hS
        refine zdv 0 (fun _ => xmv) ?_
        have hcx := hp.cell (i := 0) (j := 0) (by omega) (by omega) (by omega) (by omega)
        have hqd := tdiv_abs (a := tk2.C 0 0) (d := tk2.den) (A := 1073741824) (by omega) hcx
        refine zdv 1 (fun _ => (xfb 2 fd_72_2)) ?_
        refine zdla 2 (fun w hS => (xlb 12 pl_3 hS)) ?_
        refine zdv 3 (fun _ => (xfb 3 fd_72_3)) ?_
        refine zdla 4 (fun w hS => (xlb 12 pl_3 hS)) ?_
        refine zdv 5 (fun _ => (xquo (r := (Int.tdiv (tk2.C 0 0) tk2.den)))) ?_
        refine zdv 6 (fun _ => xmv) ?_
        refine zdv 7 (fun _ => xas) ?_
        refine zdv 8 (fun _ => xas) ?_
        refine zdv 9 (fun _ => xas) ?_
        refine zdv 10 (fun _ => xas) ?_
        refine zdd <| ztn <| zrt <| ztr <| zbr <| ztr <| ztr <| zbr <| zf4 ⟨_, rfl, ?_⟩
        exact ⟨_, m, g, _, _, 0, rfl, .inr ⟨rfl, _, _, _, hRn, hop0, by have := gfr_rng tk2 tk2.nb.toNat; by_cases hz9 : 0 ≤ gfr tk2 tk2.nb.toNat; exact absurd (hfr2.2 hz9) (by assumption); omega, hnn, by omega, hg, rfl⟩, hvx, hS.pk [13]⟩
     ·
      refine zsk <| ztn <| zrg ?_
      refine zlv (xls 1 st_25 hS) ?_
      refine zlv xmv ?_
      refine zlc (xc0 cl_21) (c_radd (t := tk2) (row := rf1) w (⟨(hS.rowN 6 rfl), (hS.rowN 7 rfl), (⟨(hS.rowN 8 rfl), fun k k0 k1 => hS.rowIn 9 rfl k0 k1, fun k k0 k1 => hS.roomIn 9 rfl k0 k1⟩ : MAt _ vCk2 tk2.nc vvk2 tk2.ln tk2.C)⟩ : TAt _ vBk2 vFk2 vCk2 vvk2 tk2) (by omega)) ?_; rintro _ w ⟨vBk3, vFk3, vCk3, vvk3, tk3, ek3, rfl, hadk3, hsBk3, hsFk3, hsCk3, hS'⟩
      replace hS : Sat w0 w [.blk g1 [vc, vA, vb], .blk g2 [.int .i64 tk2.vars, .int .i64 tk2.den, vBk2, vFk2, vCk2], .own vB 1 3 t.nb (ints t.B), .own vF 1 3 t.nf (ints t.F), .own vC 1 22 t.nc vv, .sem (Frame.rows 3 t.nc vv t.ln t.C), .own vBk2 1 3 tk2.nb (ints tk2.B), .own vFk2 1 3 tk2.nf (ints tk2.F), .own vCk2 1 22 tk2.nc vvk2, .sem (Frame.rows 3 tk2.nc vvk2 tk2.ln tk2.C), .own vBk3 1 3 tk3.nb (ints tk3.B), .own vFk3 1 3 tk3.nf (ints tk3.F), .own vCk3 1 22 tk3.nc vvk3, .sem (Frame.rows 3 tk3.nc vvk3 tk3.ln tk3.C)] := hS.comp hS'; clear hS'
      have hrsk3 := fun k (k0 : 0 ≤ k) (k1 : k < tk3.nc) => hS.slhIn 13 rfl k0 k1
      refine zlv xmv ?_
      iterate 2 refine zlv xex ?_
      refine zle (xsw 1 st_25 hS (hd := (ones_cons rfl (ones_cons rfl (ones_cons hsBk3.one (ones_cons hsFk3.one (ones_cons hsCk3.one ones_nil))))))) ?_; clear hS; rintro w hS
      replace hS : Sat w0 w [.blk _ [_, _, _], .blk _ [_, _, _, _, _], _, _, _, _, _, _, _, _, _, _, _, _] := hS
      refine zlv xas ?_
      refine zln <| zbn <| ztn <| zrg ?_
      refine zlv xmv ?_
      refine zlv (xadd (r := cu + 1)) ?_
      refine zlv xas ?_
      refine zln <| zlq ⟨us ++ [tk2], tk3, vBk3, vFk3, vCk3, vvk3, ek3, cu + 1, rfl, ?_, ?_, ?_, ?_, ?_, ?_, rfl, hS.pk [0, 1, 10, 11, 12, 13]⟩ (hlt := (by rw [if_pos rfl]; have hd1 := hpu.2; have hd2 := hpu.1.m2; split <;> rename_i hz; (have hq := hadk3.nb hz; omega); omega))
      ·
       exact .cut hRn hop0 hpu.1 (hfr2.1 (by first | assumption | exact Classical.not_not.1 ‹_›)) (by have hq := hadk3; rwa [show rf1 = gfr tk2 tk2.nb.toNat by have := hfr2.1 (by first | assumption | exact Classical.not_not.1 ‹_›); omega] at hq)
      ·
       exact hsBk3
      ·
       exact hsFk3
      ·
       exact hsCk3
      ·
       rw [List.length_append]; simp; omega
      ·
       have hq9 := hRn.len rfl hm; left; rw [List.length_append]; simp; omega
   ·
    refine zsk <| ztn <| zsq <| zsq <| zrg ?_
    refine zlv xmv ?_
    refine zlv xneq ?_
    refine zln <| ztn ?_
    refine zcif ?_ ?_ <;> intro hc
    ·
     refine zsq <| zrg ?_
     refine zlv xmv ?_
     iterate 4 refine zlv xas ?_
     refine zln <| ztn <| zrt <| ztr <| zbr <| ztr <| ztr <| zbr <| zf4 ⟨_, rfl, ?_⟩
     exact ⟨_, 0, fun _ => 0, 0, 0, _, rfl, .inl ⟨by omega, rfl, rfl, rfl, _, _, _, hRn, .inl ⟨rfl, by omega⟩⟩, slh_nil, (hS.addnil 1 3 (ints fun _ => 0)).sub (.cons _ (.cons _ (.cons _ (.cons _ (.cons _ (.cons _ (.cons_cons _ .slnil)))))))⟩
    ·
     exfalso; omega

end Go.Proofs.Ytelfplepnodbgaa
