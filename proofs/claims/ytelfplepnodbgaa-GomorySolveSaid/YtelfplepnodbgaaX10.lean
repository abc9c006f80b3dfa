/- The walk of Bounds, of the reference. -/
import Derived.Test.YtelfplepnodbgaaGc
import Derived.Test.YtelfplepnodbgaaX9
namespace Go.Proofs.Ytelfplepnodbgaa
open Go Go.RowKit Go.Proofs.Gw
set_option linter.unusedVariables false

set_option maxRecDepth 20000 in
theorem c_rbounds {vc vA vb : Value} {vq : Int → Value} {p : Lp} {most : Int} (w0 : World) (hL : LAt w0 vc vA vb vq p) (hmost0 : -9223372036854775808 ≤ most ∧ most ≤ 9223372036854775807) :
    Calls Try.prog 32 [.agg #[vc, vA, vb], .int .i64 most].toArray w0 fun e w => ∃ v, e = .returned v ∧ ∃ r n f e, v = .tuple #[r, .int .i64 e] ∧ BoundsR cvR p most n f e ∧ Slh r n ∧ Sat w0 w [.own r 1 3 n (ints f)] := by
  have hn := hL.c.slh.n0; have hn1 := hL.c.slh.n1; have hm := hL.A.row.slh.n0; have hm1 := hL.A.row.slh.n1; have hk := hL.b.slh.n0; have hk1 := hL.b.slh.n1
  refine zenG Try.func32 Try.ntmps32 fun w hS => ?_
  refine zsq <| zrg ?_
  refine zla (xbx (cs := [_, _, _]) hS) ?_; rintro _ w ⟨g1, rfl, hS⟩
  replace hS : Sat w0 w [.blk _ [_, _, _]] := hS
  iterate 2 refine zlv xas ?_
  refine zln <| ztn <| zsq <| zsq <| zrg ?_
  refine zlv xmv ?_
  refine zlv xlss ?_
  refine zlv xmv ?_
  refine zlb 15 ?_ ?_ <;> intro hc
  ·
   iterate 2 refine zlo ?_
   refine zlv xpt ?_
   refine zln <| ztn <| zct <| zsq <| zrg ?_
   iterate 2 refine zlv xas ?_
   refine zln <| ztn <| zrt <| ztr <| zf2 ⟨_, rfl, ?_⟩
   exact ⟨_, 0, fun _ => 0, 2, rfl, .inl ⟨by omega, rfl, rfl⟩, slh_nil, (hS.addnil 1 3 (ints fun _ => 0)).sub (.cons _ (.cons_cons _ .slnil))⟩
  ·
   refine zlv xmv ?_
   refine zlv xgtr ?_
   refine zlv xpf ?_
   refine zln <| ztn ?_
   refine zcif ?_ ?_ <;> intro hc
   ·
    refine zsq <| zrg ?_
    iterate 2 refine zlv xas ?_
    refine zln <| ztn <| zrt <| ztr <| zf2 ⟨_, rfl, ?_⟩
    exact ⟨_, 0, fun _ => 0, 2, rfl, .inl ⟨by omega, rfl, rfl⟩, slh_nil, (hS.addnil 1 3 (ints fun _ => 0)).sub (.cons _ (.cons_cons _ .slnil))⟩
   ·
    refine zsk <| ztn <| zsq <| zrg ?_
    refine zlv (xls 0 st_44 hS) ?_
    refine zlc (xc0 cl_73) (c_rstart (p := p) w (hL.below hS.below)) ?_; rintro _ w ⟨vBk1, vFk1, vCk1, vvk1, tk1, ek1, rfl, hstk1, hsBk1, hsFk1, hsCk1, hS'⟩
    replace hS : Sat w0 w [.blk g1 [vc, vA, vb], .own vBk1 1 3 tk1.nb (ints tk1.B), .own vFk1 1 3 tk1.nf (ints tk1.F), .own vCk1 1 22 tk1.nc vvk1, .sem (Frame.rows 3 tk1.nc vvk1 tk1.ln tk1.C)] := hS.comp hS'; clear hS'
    have hrsk1 := fun k (k0 : 0 ≤ k) (k1 : k < tk1.nc) => hS.slhIn 4 rfl k0 k1
    refine zlv xmv ?_
    iterate 2 refine zlv xex ?_
    refine zla (xal (cs := [_, _, _, _, _]) el_25 hS) ?_; rintro _ w ⟨g2, rfl, hS⟩
    replace hS : Sat w0 w [.blk _ [_, _, _], _, _, _, _, .blk _ [_, _, _, _, _]] := hS
    refine zle (xsw 5 st_25 hS (hd := (ones_cons rfl (ones_cons rfl (ones_cons hsBk1.one (ones_cons hsFk1.one (ones_cons hsCk1.one ones_nil))))))) ?_; clear hS; rintro w hS
    replace hS : Sat w0 w [.blk _ [_, _, _], _, _, _, _, .blk _ [_, _, _, _, _]] := hS
    refine zlv xas ?_
    refine zln <| ztn <| zsq <| zrg ?_
    refine zlv xas ?_
    refine zln <| ztn <| zsq <| zrg ?_
    refine zlv xas ?_
    refine zln <| ztn <| zbk ?_
    replace hS := hS.addnil 1 3 (ints (fun _ => 0))
    replace hS : Sat w0 w [.blk _ [_, _, _], _, _, _, _, .blk _ [_, _, _, _, _], _] := hS
    refine zlp (fun mm M w => ∃ (us : List Tb) (t : Tb) (vB : Value) (vF : Value) (vC : Value) (vv : Int → Value) (e : Int) (m : Int) (cu : Int) (vx : Value) (g : Int → Int), mm = (if e = 0 then (20 - t.nb).toNat else 0) ∧ (Rn p us t e) ∧ (Slh vB t.nb) ∧ (Slh vF t.nf) ∧ (Slh vC t.nc) ∧ (cu = us.length) ∧ (cu ≤ most) ∧ (m = us.length) ∧ (us.length ≤ 100 ∨ e ≠ 0) ∧ (∀ j, 0 ≤ j → j < m → g j = bdF cvR us j) ∧ (¬ (e = 9 ∧ 0 < us.length ∧ p.m + us.length > 16)) ∧ (Slh vx m) ∧ M = [(1, .int .i64 most), (6, .pointer (some ⟨g2, 0, none⟩)), (7, .int .i64 e), (8, vx), (9, .int .i64 cu)] ∧ Sat w0 w [.blk g1 [vc, vA, vb], .blk g2 [.int .i64 t.vars, .int .i64 t.den, vB, vF, vC], .own vB 1 3 t.nb (ints t.B), .own vF 1 3 t.nf (ints t.F), .own vC 1 22 t.nc vv, .sem (Frame.rows 3 t.nc vv t.ln t.C), .own vx 1 3 m (ints g)]) ⟨[], tk1, vBk1, vFk1, vCk1, vvk1, ek1, 0, 0, (.slice none 0 0), (fun _ => 0), rfl, ?_, ?_, ?_, ?_, ?_, (by omega), ?_, ?_, ?_, ?_, ?_, rfl, hS.pk [0, 5, 1, 2, 3, 4, 6]⟩ ?_
    ·
     exact .start hstk1
    ·
     exact hsBk1
    ·
     exact hsFk1
    ·
     exact hsCk1
    ·
     rfl
    ·
     rfl
    ·
     left; simp
    ·
     intro j j0 j1; omega
    ·
     simp
    ·
     exact slh_nil
    ·
     clear hS w
     rintro mm M w ⟨us, t, vB, vF, vC, vv, e, m, cu, vx, g, rfl, hRn, hsB, hsF, hsC, hnn, hum, hmn, hul, hg, hno, hvx, rfl, hS⟩
     have hrs := fun k (k0 : 0 ≤ k) (k1 : k < t.nc) => hS.slhIn 5 rfl k0 k1
     refine zsq <| zbk <| zsq <| zsq <| zrg ?_
     refine zlv xmv ?_
     refine zlv xeql ?_
     refine zln <| ztn ?_
     refine zcif ?_ ?_ <;> intro hc
     ·
      refine zrg ?_
      refine zlv (xls 1 st_25 hS) ?_
      refine zlc (xc0 cl_74) (c_rOptimize (t := t) w (⟨(hS.rowN 2 rfl), (hS.rowN 3 rfl), (⟨(hS.rowN 4 rfl), fun k k0 k1 => hS.rowIn 5 rfl k0 k1, fun k k0 k1 => hS.roomIn 5 rfl k0 k1⟩ : MAt _ vC t.nc vv t.ln t.C)⟩ : TAt _ vB vF vC vv t)) ?_; rintro _ w ⟨vBk2, vFk2, vCk2, vvk2, tk2, ek2, rfl, hopk2, hsBk2, hsFk2, hsCk2, hS'⟩
      replace hS : Sat w0 w [.blk g1 [vc, vA, vb], .blk g2 [.int .i64 t.vars, .int .i64 t.den, vB, vF, vC], .own vB 1 3 t.nb (ints t.B), .own vF 1 3 t.nf (ints t.F), .own vC 1 22 t.nc vv, .sem (Frame.rows 3 t.nc vv t.ln t.C), .own vx 1 3 m (ints g), .own vBk2 1 3 tk2.nb (ints tk2.B), .own vFk2 1 3 tk2.nf (ints tk2.F), .own vCk2 1 22 tk2.nc vvk2, .sem (Frame.rows 3 tk2.nc vvk2 tk2.ln tk2.C)] := hS.comp hS'; clear hS'
      have hrsk2 := fun k (k0 : 0 ≤ k) (k1 : k < tk2.nc) => hS.slhIn 10 rfl k0 k1
      refine zlv xmv ?_
      iterate 2 refine zlv xex ?_
      refine zle (xsw 1 st_25 hS (hd := (ones_cons rfl (ones_cons rfl (ones_cons hsBk2.one (ones_cons hsFk2.one (ones_cons hsCk2.one ones_nil))))))) ?_; clear hS; rintro w hS
      replace hS : Sat w0 w [.blk _ [_, _, _], .blk _ [_, _, _, _, _], _, _, _, _, _, _, _, _, _] := hS
      refine zlv xas ?_
      refine zln <| ztn <| zsq <| zsq <| zrg ?_
      refine zlv xmv ?_
      refine zlv xneq ?_
      refine zln <| ztn ?_
      refine zcif ?_ ?_ <;> intro hc
      ·
       refine zsq <| zrg ?_
       refine zlv xmv ?_
       iterate 2 refine zlv xas ?_
       refine zln <| ztn <| zrt <| ztr <| zbr <| ztr <| ztr <| zbr <| zf2 ⟨_, rfl, ?_⟩
       obtain rfl : e = 0 := by omega
       exact ⟨_, 0, fun _ => 0, _, rfl, .inr (.inl ⟨by omega, by omega, by omega, rfl, _, _, _, hRn, by omega, .inr ⟨rfl, _, hopk2⟩, by omega⟩), slh_nil, (hS.addnil 1 3 (ints fun _ => 0)).sub (.cons _ (.cons _ (.cons _ (.cons _ (.cons _ (.cons _ (.cons _ (.cons _ (.cons _ (.cons _ (.cons _ (.cons_cons _ .slnil))))))))))))⟩
      ·
       refine zsk <| ztn <| zsq ?_
       refine zdst [0, 1, 2, 3, 4, 5, 7, 8, 9, 10] [0, 1, 2, 3, 4, 5, 7, 8, 9, 10] 1000 mx_ hS ?_; clear hS; intro w hS
       refine zdv 0 (fun _ => xmv) ?_
       refine zdv 1 (fun _ => (xfb 4 fd_25_4)) ?_
       obtain rfl : e = 0 := by omega
       have hop0 : OptR t tk2 0 := by have := hopk2; rwa [show ek2 = 0 by omega] at this
       have hpu := hop0.prp
       have hp := hpu.1
       have b1 := hp.n1
       have b2 := hp.n2
       have b3 := hp.m2
       have b4 := hp.v
       have b5 := hp.d1
       have b6 := hp.d2
       have b7 := hp.c
       have hkn := hsBk2.n0
       have hcx := hp.cell (i := 0) (j := 0) (by omega) (by omega) (by omega) (by omega)
       have hln0 := hp.len (i := 0) (by omega) (by omega)
       have hqd := tdiv_abs (a := tk2.C 0 0 + tk2.den - 1) (d := tk2.den) (A := 2147483648) (by omega) (by omega)
       have hbn := hpu.1.m2
       refine zdla 2 (fun w hS => (xlb 1 pl_23 hS)) ?_
       refine zdv 3 (fun _ => (xix (kk := 0) sl_23 hsCk2)) ?_
       refine zdla 4 (fun w hS => (xlr (u := (vvk2 0)) pl_22 (hS.rowN 8 rfl))) ?_
       refine zdv 5 (fun _ => (xix (kk := 0) sl_22 (hrsk2 0 (by omega) (by omega)))) ?_
       refine zdla 6 (fun w hS => (xlr (u := .int .i64 (tk2.C 0 0)) pl_3 (hS.rowIn (k := 0) 9 rfl (by omega) (by omega)))) ?_
       refine zdv 7 (fun _ => (xfb 1 fd_25_1)) ?_
       refine zdla 8 (fun w hS => (xlb 1 pl_3 hS)) ?_
       refine zdv 9 (fun _ => (xadd (r := (tk2.C 0 0) + tk2.den))) ?_
       refine zdv 10 (fun _ => (xsub (r := (tk2.C 0 0) + tk2.den - 1))) ?_
       refine zdv 11 (fun _ => (xfb 1 fd_25_1)) ?_
       refine zdla 12 (fun w hS => (xlb 1 pl_3 hS)) ?_
       refine zdv 13 (fun _ => (xquo (r := (Int.tdiv ((tk2.C 0 0) + tk2.den - 1) tk2.den)))) ?_
       refine zda 14 (xli (n := 1) (len := 1) (pv := [(0, .int .i64 (Int.tdiv ((tk2.C 0 0) + tk2.den - 1) tk2.den))]) (cs := [.int .i64 (Int.tdiv ((tk2.C 0 0) + tk2.den - 1) tk2.den)]) (c := ints (fun _ => (Int.tdiv ((tk2.C 0 0) + tk2.den - 1) tk2.den))) sl_22 el_3 hS) ?_; rintro v1 w ⟨hS, hv1⟩
       replace hS : Sat w0 w [.blk _ [_, _, _], .blk _ [_, _, _, _, _], _, _, _, _, _, _, _, _, _, _] := hS
       refine ⟨⟨fun _ => hS.pk [0, 1, 2, 3, 4, 5, 7, 8, 9, 10], hS.pk [0, 1, 2, 3, 4, 5, 7, 8, 9, 10]⟩, ?_⟩
       refine zda 15 (xap 6 (r := m + 1) sl_22 el_3 hS (hS.rowN 11 rfl) (cat_snoc _ _ _)) ?_; rintro v2 w ⟨hS, hv2⟩
       replace hS : Sat w0 w [.blk _ [_, _, _], .blk _ [_, _, _, _, _], _, _, _, _, _, _, _, _, _, _] := hS
       refine ⟨⟨fun _ => hS.pk [0, 1, 2, 3, 4, 5, 7, 8, 9, 10], hS.pk [0, 1, 2, 3, 4, 5, 7, 8, 9, 10]⟩, ?_⟩
       refine zdv 16 (fun _ => xas) ?_
       refine zdd <| ztn <| zsq <| zrg ?_
       refine zlv (xls 1 st_25 hS) ?_
       refine zlc (xc0 cl_17) (c_rfrac (t := tk2) w (⟨(hS.rowN 7 rfl), (hS.rowN 8 rfl), (⟨(hS.rowN 9 rfl), fun k k0 k1 => hS.rowIn 10 rfl k0 k1, fun k k0 k1 => hS.roomIn 10 rfl k0 k1⟩ : MAt _ vCk2 tk2.nc vvk2 tk2.ln tk2.C)⟩ : TAt _ vBk2 vFk2 vCk2 vvk2 tk2)) ?_; rintro _ w ⟨rf1, okf1, ef1, rfl, hfrf1, hS'⟩
       replace hS := hS.cmp hS'; clear hS'
       refine zlv xmv ?_
       iterate 3 refine zlv xex ?_
       iterate 3 refine zlv xas ?_
       refine zln <| ztn <| zsq <| zsq <| zrg ?_
       refine zlv xmv ?_
       obtain ⟨_, hfr1, hfr2, hfr3⟩ : TPrp tk2 ∧ rf1 = max (gfr tk2 tk2.nb.toNat) 0 ∧ (okf1 ↔ 0 ≤ gfr tk2 tk2.nb.toNat) ∧ ef1 = 0 := hfrf1.resolve_left (fun h => h.1 hpu.1)
       have hrr := hfrf1.rng
       refine zlv xnot ?_
       refine zlv xmv ?_
       refine zlb 60 ?_ ?_ <;> intro hc
       ·
        iterate 3 refine zlo ?_
        refine zlv xpt ?_
        refine zlv xmv ?_
        iterate 4 refine zlo ?_
        refine zlv xpt ?_
        refine zln <| ztn <| zct <| zsq <| zrg ?_
        refine zlv xmv ?_
        iterate 2 refine zlv xas ?_
        refine zln <| ztn <| zrt <| ztr <| zbr <| ztr <| ztr <| zbr <| zf2 ⟨_, rfl, ?_⟩
        exact ⟨_, _, _, 0, rfl, .inr (.inr ⟨by omega, by omega, rfl, _, _, _, hRn, hop0, by omega, (by
          first
          | exact .inr (.inl (by omega))
          | exact .inr (.inr (by omega))
          | exact .inl (by have := gfr_rng tk2 tk2.nb.toNat; by_cases hz9 : 0 ≤ gfr tk2 tk2.nb.toNat; exact absurd (hfr2.2 hz9) (by assumption); omega)), by omega, fun k k0 k1 => by
            have hq9 := bdF_snoc cvR us tk2 (k := k) k0 (by omega); rw [← hq9, ← hmn]; by_cases e9 : k < m
            · rw [snoc_lt e9, snoc_lt e9]; exact hg k k0 e9
            · rw [snoc_at (by omega), snoc_at (by omega)]; first | rfl | (unfold cvR; congr 1; omega)⟩), hv2, hS.pk [6]⟩
       ·
        iterate 2 refine zlv xmv ?_
        refine zlv xeql ?_
        refine zlv xpf ?_
        refine zlv xmv ?_
        refine zlb 65 ?_ ?_ <;> intro hc
        ·
         iterate 4 refine zlo ?_
         refine zlv xpt ?_
         refine zln <| ztn <| zct <| zsq <| zrg ?_
         refine zlv xmv ?_
         iterate 2 refine zlv xas ?_
         refine zln <| ztn <| zrt <| ztr <| zbr <| ztr <| ztr <| zbr <| zf2 ⟨_, rfl, ?_⟩
         exact ⟨_, _, _, 0, rfl, .inr (.inr ⟨by omega, by omega, rfl, _, _, _, hRn, hop0, by omega, (by
           first
           | exact .inr (.inl (by omega))
           | exact .inr (.inr (by omega))
           | exact .inl (by have := gfr_rng tk2 tk2.nb.toNat; by_cases hz9 : 0 ≤ gfr tk2 tk2.nb.toNat; exact absurd (hfr2.2 hz9) (by assumption); omega)), by omega, fun k k0 k1 => by
             have hq9 := bdF_snoc cvR us tk2 (k := k) k0 (by omega); rw [← hq9, ← hmn]; by_cases e9 : k < m
             · rw [snoc_lt e9, snoc_lt e9]; exact hg k k0 e9
             · rw [snoc_at (by omega), snoc_at (by omega)]; first | rfl | (unfold cvR; congr 1; omega)⟩), hv2, hS.pk [6]⟩
        ·
         refine zlv (xfb 2 fd_25_2) ?_
         refine zlv (xlb 1 pl_22 hS) ?_
         refine zlv (xln sl_22 hsBk2) ?_
         refine zlv xeql ?_
         refine zlv xpf ?_
         refine zln <| ztn ?_
         refine zcif ?_ ?_ <;> intro hc
         ·
          refine zsq <| zrg ?_
          refine zlv xmv ?_
          iterate 2 refine zlv xas ?_
          refine zln <| ztn <| zrt <| ztr <| zbr <| ztr <| ztr <| zbr <| zf2 ⟨_, rfl, ?_⟩
          exact ⟨_, _, _, 0, rfl, .inr (.inr ⟨by omega, by omega, rfl, _, _, _, hRn, hop0, by omega, (by
            first
            | exact .inr (.inl (by omega))
            | exact .inr (.inr (by omega))
            | exact .inl (by have := gfr_rng tk2 tk2.nb.toNat; by_cases hz9 : 0 ≤ gfr tk2 tk2.nb.toNat; exact absurd (hfr2.2 hz9) (by assumption); omega)), by omega, fun k k0 k1 => by
              have hq9 := bdF_snoc cvR us tk2 (k := k) k0 (by omega); rw [← hq9, ← hmn]; by_cases e9 : k < m
              · rw [snoc_lt e9, snoc_lt e9]; exact hg k k0 e9
              · rw [snoc_at (by omega), snoc_at (by omega)]; first | rfl | (unfold cvR; congr 1; omega)⟩), hv2, hS.pk [6]⟩
         ·
          refine zsk <| ztn <| zrg ?_
          refine zlv (xls 1 st_25 hS) ?_
          refine zlv xmv ?_
          refine zlc (xc0 cl_21) (c_radd (t := tk2) (row := rf1) w (⟨(hS.rowN 7 rfl), (hS.rowN 8 rfl), (⟨(hS.rowN 9 rfl), fun k k0 k1 => hS.rowIn 10 rfl k0 k1, fun k k0 k1 => hS.roomIn 10 rfl k0 k1⟩ : MAt _ vCk2 tk2.nc vvk2 tk2.ln tk2.C)⟩ : TAt _ vBk2 vFk2 vCk2 vvk2 tk2) (by omega)) ?_; rintro _ w ⟨vBk3, vFk3, vCk3, vvk3, tk3, ek3, rfl, hadk3, hsBk3, hsFk3, hsCk3, hS'⟩
          replace hS : Sat w0 w [.blk g1 [vc, vA, vb], .blk g2 [.int .i64 tk2.vars, .int .i64 tk2.den, vBk2, vFk2, vCk2], .own vB 1 3 t.nb (ints t.B), .own vF 1 3 t.nf (ints t.F), .own vC 1 22 t.nc vv, .sem (Frame.rows 3 t.nc vv t.ln t.C), .own v2 1 3 (m + 1) (ints (snoc g m (Int.tdiv ((tk2.C 0 0) + tk2.den - 1) tk2.den))), .own vBk2 1 3 tk2.nb (ints tk2.B), .own vFk2 1 3 tk2.nf (ints tk2.F), .own vCk2 1 22 tk2.nc vvk2, .sem (Frame.rows 3 tk2.nc vvk2 tk2.ln tk2.C), .own v1 1 3 1 (ints (fun _ => (Int.tdiv ((tk2.C 0 0) + tk2.den - 1) tk2.den))), .own vBk3 1 3 tk3.nb (ints tk3.B), .own vFk3 1 3 tk3.nf (ints tk3.F), .own vCk3 1 22 tk3.nc vvk3, .sem (Frame.rows 3 tk3.nc vvk3 tk3.ln tk3.C)] := hS.comp hS'; clear hS'
          have hrsk3 := fun k (k0 : 0 ≤ k) (k1 : k < tk3.nc) => hS.slhIn 15 rfl k0 k1
          refine zlv xmv ?_
          iterate 2 refine zlv xex ?_
          refine zle (xsw 1 st_25 hS (hd := (ones_cons rfl (ones_cons rfl (ones_cons hsBk3.one (ones_cons hsFk3.one (ones_cons hsCk3.one ones_nil))))))) ?_; clear hS; rintro w hS
          replace hS : Sat w0 w [.blk _ [_, _, _], .blk _ [_, _, _, _, _], _, _, _, _, _, _, _, _, _, _, _, _, _, _] := hS
          refine zlv xas ?_
          refine zln <| zbn <| ztn <| zrg ?_
          refine zlv xmv ?_
          refine zlv (xadd (r := cu + 1)) ?_
          refine zlv xas ?_
          refine zln <| zlq ⟨us ++ [tk2], tk3, vBk3, vFk3, vCk3, vvk3, ek3, m + 1, cu + 1, v2, (snoc g m (Int.tdiv ((tk2.C 0 0) + tk2.den - 1) tk2.den)), rfl, ?_, ?_, ?_, ?_, ?_, (by omega), ?_, ?_, ?_, ?_, ?_, rfl, hS.pk [0, 1, 12, 13, 14, 15, 6]⟩ (hlt := (by rw [if_pos rfl]; have hd1 := hpu.2; have hd2 := hpu.1.m2; split <;> rename_i hz; (have hq := hadk3.nb hz; omega); omega))
          ·
           exact .cut hRn hop0 hpu.1 (hfr2.1 (by first | assumption | exact Classical.not_not.1 ‹_›)) (by have hq := hadk3; rwa [show rf1 = gfr tk2 tk2.nb.toNat by have := hfr2.1 (by first | assumption | exact Classical.not_not.1 ‹_›); omega] at hq)
          ·
           exact hsBk3
          ·
           exact hsFk3
          ·
           exact hsCk3
          ·
           rw [List.length_append]; simp; omega
          ·
           rw [List.length_append]; simp; omega
          ·
           have hq9 := hRn.len rfl hm; left; rw [List.length_append]; simp; omega
          ·
           intro j j0 j1; have hq9 := bdF_snoc cvR us tk2 (k := j) j0 (by omega); rw [← hq9, ← hmn]; by_cases e9 : j < m
           · rw [snoc_lt e9, snoc_lt e9]; exact hg j j0 e9
           · rw [snoc_at (by omega), snoc_at (by omega)]; first | rfl | (unfold cvR; congr 1; omega)
          ·
           rintro ⟨h9, _⟩; rcases hadk3 with ⟨_, _, h⟩ | ⟨_, _, _, h⟩ | ⟨_, _, _, _, _, h⟩ | ⟨_, _, _, _, _, _, h⟩ | ⟨_, _, _, _, _, _, h⟩ <;> omega
          ·
           exact hv2
     ·
      refine zsk <| ztn <| zsq <| zsq <| zrg ?_
      refine zlv xmv ?_
      refine zlv xneq ?_
      refine zln <| ztn ?_
      refine zcif ?_ ?_ <;> intro hc
      ·
       refine zsq <| zrg ?_
       refine zlv xmv ?_
       iterate 2 refine zlv xas ?_
       refine zln <| ztn <| zrt <| ztr <| zbr <| ztr <| ztr <| zbr <| zf2 ⟨_, rfl, ?_⟩
       exact ⟨_, 0, fun _ => 0, _, rfl, .inr (.inl ⟨by omega, by omega, by omega, rfl, _, _, _, hRn, by omega, .inl ⟨rfl, by omega⟩, hno⟩), slh_nil, (hS.addnil 1 3 (ints fun _ => 0)).sub (.cons _ (.cons _ (.cons _ (.cons _ (.cons _ (.cons _ (.cons _ (.cons_cons _ .slnil))))))))⟩
      ·
       exfalso; omega

end Go.Proofs.Ytelfplepnodbgaa
