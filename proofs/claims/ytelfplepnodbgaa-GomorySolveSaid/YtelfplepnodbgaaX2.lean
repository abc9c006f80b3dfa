/- The walks of Cut, of gomory and of the reference. -/
import Derived.Test.YtelfplepnodbgaaGc
import Derived.Test.YtelfplepnodbgaaX1
namespace Go.Proofs.Ytelfplepnodbgaa
open Go Go.RowKit Go.Proofs.Gw
set_option linter.unusedVariables false

theorem cl_63 : calledT Try.prog 63 = true := by kernel_rfl
theorem cl_64 : calledT Try.prog 64 = true := by kernel_rfl
set_option maxRecDepth 20000 in
theorem c_cut {vB vF vC : Value} {vv : Int → Value} {t : Tb} {row : Int} (w0 : World) (hT : TAt w0 vB vF vC vv t) (hrow0 : -9223372036854775808 ≤ row ∧ row ≤ 9223372036854775807) :
    Calls Try.prog 18 [.agg #[.int .i64 t.vars, .int .i64 t.den, vB, vF, vC], .int .i64 row].toArray w0 fun e w => ∃ v, e = .returned v ∧ ∃ r n f e, v = .tuple #[r, .int .i64 e] ∧ CutR t row n f e ∧ Slh r n ∧ Sat w0 w [.own r 1 3 n (ints f)] := by
  have hn := hT.F.slh.n0; have hn1 := hT.F.slh.n1; have hb := hT.B.slh.n0; have hb1 := hT.B.slh.n1; have hc0 := hT.C.row.slh.n0; have hc1 := hT.C.row.slh.n1
  refine zenG Try.func18 Try.ntmps18 fun w hS => ?_
  refine zsq <| zrg ?_
  refine zla (xbx (cs := [_, _, _, _, _]) hS) ?_; rintro _ w ⟨g1, rfl, hS⟩
  replace hS : Sat w0 w [.blk _ [_, _, _, _, _]] := hS
  iterate 2 refine zlv xas ?_
  refine zln <| ztn <| zsq <| zbk <| zsq <| zrg ?_
  refine zlv (xls 0 st_28 hS) ?_
  refine zlc (xc0 cl_61) (c_gproper (t := t) w (hT.below hS.below)) ?_; rintro _ w ⟨rfl, hS'⟩
  replace hS := hS.cmp hS'; clear hS'
  refine zlv xnot ?_
  refine zlv xas ?_
  refine zln <| ztn ?_
  refine zcif ?_ ?_ <;> intro hc
  ·
   refine zsq <| zrg ?_
   iterate 2 refine zlv xas ?_
   refine zln <| ztn <| zrt <| zbr <| ztr <| zf2 ⟨_, rfl, ?_⟩
   exact ⟨_, 0, fun _ => 0, 1, rfl, .inl ⟨by assumption, rfl, rfl⟩, slh_nil, (hS.addnil 1 3 (ints fun _ => 0)).sub (.cons _ (.cons_cons _ .slnil))⟩
  ·
   refine zsq <| zrg ?_
   refine zlv xmv ?_
   have hp : TPrp t := by first | assumption | exact Classical.not_not.1 ‹¬ ¬ (TPrp t)›
   have b1 := hp.n1
   have b2 := hp.n2
   have b3 := hp.m2
   have b4 := hp.v
   have b5 := hp.d1
   have b6 := hp.d2
   have b7 := hp.c
   refine zlv xlss ?_
   refine zlv xmv ?_
   refine zlb 17 ?_ ?_ <;> intro hc
   ·
    iterate 5 refine zlo ?_
    refine zlv xpt ?_
    refine zlv xas ?_
    refine zln <| ztn <| zct <| zsq <| zrg ?_
    iterate 2 refine zlv xas ?_
    refine zln <| ztn <| zrt <| zbr <| ztr <| zf2 ⟨_, rfl, ?_⟩
    exact ⟨_, 0, fun _ => 0, 2, rfl, .inr (.inl ⟨hp, by omega, rfl, rfl⟩), slh_nil, (hS.addnil 1 3 (ints fun _ => 0)).sub (.cons _ (.cons_cons _ .slnil))⟩
   ·
    refine zlv xmv ?_
    refine zlv (xfb 2 fd_28_2) ?_
    refine zlv (xlb 0 pl_22 hS) ?_
    refine zlv (xln sl_22 hT.B.slh) ?_
    refine zlv xgeq ?_
    refine zlv xpf ?_
    refine zlv xas ?_
    refine zln <| ztn ?_
    refine zcif ?_ ?_ <;> intro hc
    ·
     refine zsq <| zrg ?_
     iterate 2 refine zlv xas ?_
     refine zln <| ztn <| zrt <| zbr <| ztr <| zf2 ⟨_, rfl, ?_⟩
     exact ⟨_, 0, fun _ => 0, 2, rfl, .inr (.inl ⟨hp, by omega, rfl, rfl⟩), slh_nil, (hS.addnil 1 3 (ints fun _ => 0)).sub (.cons _ (.cons_cons _ .slnil))⟩
    ·
     refine zsq ?_
     refine zdst [0] [0] 1000 mx_ hS ?_; clear hS; intro w hS
     refine zdv 0 (fun _ => (xfb 4 fd_28_4)) ?_
     have hlr := hp.len (i := row + 1) (by omega) (by omega)
     refine zdla 1 (fun w hS => (xlb 0 pl_23 hS)) ?_
     refine zdv 2 (fun _ => xmv) ?_
     refine zdv 3 (fun _ => (xadd (r := row + 1))) ?_
     refine zdv 4 (fun _ => (xix (kk := row + 1) sl_23 hT.C.row.slh)) ?_
     refine zdla 5 (fun w hS => (xlr (u := (vv (row + 1))) pl_22 (hT.C.row.below hS.below))) ?_
     refine zdv 6 (fun _ => (xix (kk := 0) sl_22 (hT.C.p (row + 1) (by omega) (by omega)).slh)) ?_
     refine zdla 7 (fun w hS => (xlr (u := .int .i64 ((t.C (row + 1)) 0)) pl_3 ((hT.C.p (row + 1) (by omega) (by omega)).below hS.below))) ?_
     refine zdv 8 (fun _ => (xfb 1 fd_28_1)) ?_
     refine zdla 9 (fun w hS => (xlb 0 pl_3 hS)) ?_
     refine zdv 10 (fun _ => (xrem (r := (Int.tmod ((t.C (row + 1)) 0) t.den)))) ?_
     refine zdv 11 (fun _ => xeql) ?_
     refine zdv 12 (fun _ => xas) ?_
     refine zdd <| ztn ?_
     refine zcif ?_ ?_ <;> intro hc
     ·
      refine zsq <| zrg ?_
      iterate 2 refine zlv xas ?_
      refine zln <| ztn <| zrt <| zbr <| ztr <| zf2 ⟨_, rfl, ?_⟩
      exact ⟨_, 0, fun _ => 0, 8, rfl, .inr (.inr (.inl ⟨hp, by omega, by omega, by omega, rfl, rfl⟩)), slh_nil, (hS.addnil 1 3 (ints fun _ => 0)).sub (.cons _ (.cons_cons _ .slnil))⟩
     ·
      refine zsk <| zbn <| ztn <| zsq <| zrg ?_
      refine zlv (xfb 4 fd_28_4) ?_
      refine zlv (xlb 0 pl_23 hS) ?_
      refine zlv xmv ?_
      refine zlv (xadd (r := row + 1)) ?_
      refine zlv (xix (kk := row + 1) sl_23 hT.C.row.slh) ?_
      refine zlv (xlr (u := (vv (row + 1))) pl_22 (hT.C.row.below hS.below)) ?_
      refine zlv xas ?_
      refine zln <| ztn <| zsq ?_
      refine zdst [0] [0] 1000 mx_ hS ?_; clear hS; intro w hS
      refine zdv 0 (fun _ => xmv) ?_
      refine zdv 1 (fun _ => (xix (kk := 0) sl_22 (hT.C.p (row + 1) (by omega) (by omega)).slh)) ?_
      refine zdla 2 (fun w hS => (xlr (u := .int .i64 ((t.C (row + 1)) 0)) pl_3 ((hT.C.p (row + 1) (by omega) (by omega)).below hS.below))) ?_
      refine zdv 3 (fun _ => (xfb 1 fd_28_1)) ?_
      refine zdla 4 (fun w hS => (xlb 0 pl_3 hS)) ?_
      have hq0 := rmd_rng (a := t.C (row + 1) 0) (d := t.den) (by omega)
      refine zdc 5 (xc0 cl_63) (c_rem (a := ((t.C (row + 1)) 0)) (d := t.den) w (by omega) (by omega)) ?_; rintro _ w ⟨rfl, hS'⟩
      replace hS := hS.cmp hS'; clear hS'
      refine ⟨⟨fun _ => hS, hS⟩, ?_⟩
      refine zdv 6 (fun _ => (xneg (r := -((rmd ((t.C (row + 1)) 0) t.den))))) ?_
      refine zda 7 (xli (n := 1) (len := 1) (pv := [(0, .int .i64 (-((rmd ((t.C (row + 1)) 0) t.den))))]) (cs := [.int .i64 (-((rmd ((t.C (row + 1)) 0) t.den)))]) (c := ints (fun _ => -((rmd ((t.C (row + 1)) 0) t.den)))) sl_22 el_3 hS) ?_; rintro v1 w ⟨hS, hv1⟩
      replace hS : Sat w0 w [.blk _ [_, _, _, _, _], _] := hS
      refine ⟨⟨fun _ => hS.pk [0], hS.pk [0]⟩, ?_⟩
      refine zdv 8 (fun _ => xas) ?_
      refine zdd <| ztn <| zsq <| zsq <| zrg ?_
      refine zlv xmv ?_
      refine zlvr rfl rfl rfl (ex_slice_lo (q := 1) rfl sl_22 rfl rfl rfl (hT.C.p (row + 1) (by omega) (by omega)).slh rfl (by omega) (by omega)) ?_
      refine zlv (xln sl_22 (suf_of (q := 1) (hT.C.p (row + 1) (by omega) (by omega)).slh (hT.C.room (row + 1) (by omega) (by omega)) (by omega)).slh) ?_
      refine zlv xmv ?_
      refine zln <| ztn <| zbk <| zlp (fun mm M w => ∃ (m : Int) (k : Int) (vb : Value) (g : Int → Int), mm = ((t.nf - k).toNat) ∧ (0 ≤ k) ∧ (k ≤ t.nf) ∧ (m = k + 1) ∧ (∀ j, 0 ≤ j → j < m → g j = cutF t row j) ∧ (Slh vb m) ∧ M = [(2, .pointer (some ⟨g1, 0, none⟩)), (4, .slice none 0 0), (5, .int .i64 0), (7, vb), (52, (sufV (vv (row + 1)) 1)), (53, .int .i64 ((t.ln (row + 1)) - 1)), (54, .int .i64 k)] ∧ Sat w0 w [.blk g1 [.int .i64 t.vars, .int .i64 t.den, vB, vF, vC], .own vb 1 3 m (ints g)]) ⟨1, 0, v1, (fun _ => -((rmd ((t.C (row + 1)) 0) t.den))), rfl, (by omega), (by omega), (by omega), ?_, ?_, rfl, hS⟩ ?_
      ·
       intro j j0 j1; obtain rfl : j = 0 := by omega
       rfl
      ·
       exact hv1
      ·
       clear hS w
       rintro mm M w ⟨m, k, vb, g, rfl, h0, h1, hm, hg, hvb, rfl, hS⟩
       refine zsq <| zrg ?_
       refine zlv xlss ?_
       refine zln <| ztn <| zsq ?_
       refine zcif ?_ ?_ <;> intro hc
       ·
        refine zsk <| ztn <| zsq <| zbk <| zsq <| zrg ?_
        refine zlv (xix (kk := k) sl_22 (suf_of (q := 1) (hT.C.p (row + 1) (by omega) (by omega)).slh (hT.C.room (row + 1) (by omega) (by omega)) (by omega)).slh) ?_
        refine zlv (xlr (u := .int .i64 ((t.C (row + 1)) (k + 1))) pl_3 ((suf_of (q := 1) (hT.C.p (row + 1) (by omega) (by omega)).slh (hT.C.room (row + 1) (by omega) (by omega)) (by omega)).row (by omega) ((hT.C.p (row + 1) (by omega) (by omega)).below hS.below))) ?_
        have hcx := hp.cell (i := row + 1) (j := k + 1) (by omega) (by omega) (by omega) (by omega)
        refine zlv xas ?_
        refine zln <| ztn <| zrg ?_
        iterate 2 refine zlv xmv ?_
        refine zlv (xneg (r := -(((t.C (row + 1)) (k + 1))))) ?_
        refine zlv (xfb 1 fd_28_1) ?_
        refine zlv (xlb 0 pl_3 hS) ?_
        refine zlc (xc0 cl_63) (c_rem (a := (-(((t.C (row + 1)) (k + 1))))) (d := t.den) w (by omega) (by omega)) ?_; rintro _ w ⟨rfl, hS'⟩
        replace hS := hS.cmp hS'; clear hS'
        refine zla (xli (n := 1) (len := 1) (pv := [(0, .int .i64 (rmd (-(((t.C (row + 1)) (k + 1)))) t.den))]) (cs := [.int .i64 (rmd (-(((t.C (row + 1)) (k + 1)))) t.den)]) (c := ints (fun _ => (rmd (-(((t.C (row + 1)) (k + 1)))) t.den))) sl_22 el_3 hS) ?_; rintro v2 w ⟨hS, hv2⟩
        replace hS : Sat w0 w [.blk _ [_, _, _, _, _], _, _] := hS
        refine zla (xap 1 (r := m + 1) sl_22 el_3 hS (hS.rowN 2 rfl) (cat_snoc _ _ _)) ?_; rintro v3 w ⟨hS, hv3⟩
        replace hS : Sat w0 w [.blk _ [_, _, _, _, _], _, _] := hS
        refine zlv xas ?_
        refine zln <| zbn <| ztn <| zrg ?_
        refine zlv (xadd (r := k + 1)) ?_
        refine zlv xmv ?_
        refine zln <| zlq ⟨m + 1, k + 1, v3, (snoc g m (rmd (-(((t.C (row + 1)) (k + 1)))) t.den)), rfl, (by omega), (by omega), (by omega), ?_, ?_, rfl, hS.pk [0, 1]⟩
        ·
         intro j j0 j1; by_cases e : j < m
         · rw [snoc_lt e]; exact hg j j0 e
         · rw [snoc_at e]; unfold cutF; rw [if_neg (by omega), show j = k + 1 by omega]
        ·
         exact hv3
       ·
        refine zxt <| ztx <| ztx <| zbh <| ztn <| zsq <| zrg ?_
        refine zlv xmv ?_
        iterate 2 refine zlv xas ?_
        refine zln <| ztn <| zrt <| zf2 ⟨_, rfl, ?_⟩
        exact ⟨_, m, g, 0, rfl, .inr (.inr (.inr ⟨hp, by omega, by omega, by omega, by omega, hg, rfl⟩)), hvb, hS.pk [1]⟩

set_option maxRecDepth 20000 in
theorem c_rcut {vB vF vC : Value} {vv : Int → Value} {t : Tb} {row : Int} (w0 : World) (hT : TAt w0 vB vF vC vv t) (hrow0 : -9223372036854775808 ≤ row ∧ row ≤ 9223372036854775807) :
    Calls Try.prog 19 [.agg #[.int .i64 t.vars, .int .i64 t.den, vB, vF, vC], .int .i64 row].toArray w0 fun e w => ∃ v, e = .returned v ∧ ∃ r n f e, v = .tuple #[r, .int .i64 e] ∧ CutR t row n f e ∧ Slh r n ∧ Sat w0 w [.own r 1 3 n (ints f)] := by
  have hn := hT.F.slh.n0; have hn1 := hT.F.slh.n1; have hb := hT.B.slh.n0; have hb1 := hT.B.slh.n1; have hc0 := hT.C.row.slh.n0; have hc1 := hT.C.row.slh.n1
  refine zenG Try.func19 Try.ntmps19 fun w hS => ?_
  refine zsq <| zrg ?_
  refine zla (xbx (cs := [_, _, _, _, _]) hS) ?_; rintro _ w ⟨g1, rfl, hS⟩
  replace hS : Sat w0 w [.blk _ [_, _, _, _, _]] := hS
  iterate 2 refine zlv xas ?_
  refine zln <| ztn <| zsq <| zbk <| zsq <| zrg ?_
  refine zlv (xls 0 st_25 hS) ?_
  refine zlc (xc0 cl_62) (c_rproper (t := t) w (hT.below hS.below)) ?_; rintro _ w ⟨rfl, hS'⟩
  replace hS := hS.cmp hS'; clear hS'
  refine zlv xnot ?_
  refine zlv xas ?_
  refine zln <| ztn ?_
  refine zcif ?_ ?_ <;> intro hc
  ·
   refine zsq <| zrg ?_
   iterate 2 refine zlv xas ?_
   refine zln <| ztn <| zrt <| zbr <| ztr <| zf2 ⟨_, rfl, ?_⟩
   exact ⟨_, 0, fun _ => 0, 1, rfl, .inl ⟨by assumption, rfl, rfl⟩, slh_nil, (hS.addnil 1 3 (ints fun _ => 0)).sub (.cons _ (.cons_cons _ .slnil))⟩
  ·
   refine zsq <| zrg ?_
   refine zlv xmv ?_
   have hp : TPrp t := by first | assumption | exact Classical.not_not.1 ‹¬ ¬ (TPrp t)›
   have b1 := hp.n1
   have b2 := hp.n2
   have b3 := hp.m2
   have b4 := hp.v
   have b5 := hp.d1
   have b6 := hp.d2
   have b7 := hp.c
   refine zlv xlss ?_
   refine zlv xmv ?_
   refine zlb 16 ?_ ?_ <;> intro hc
   ·
    iterate 5 refine zlo ?_
    refine zlv xpt ?_
    refine zlv xas ?_
    refine zln <| ztn <| zct <| zsq <| zrg ?_
    iterate 2 refine zlv xas ?_
    refine zln <| ztn <| zrt <| zbr <| ztr <| zf2 ⟨_, rfl, ?_⟩
    exact ⟨_, 0, fun _ => 0, 2, rfl, .inr (.inl ⟨hp, by omega, rfl, rfl⟩), slh_nil, (hS.addnil 1 3 (ints fun _ => 0)).sub (.cons _ (.cons_cons _ .slnil))⟩
   ·
    refine zlv xmv ?_
    refine zlv (xfb 2 fd_25_2) ?_
    refine zlv (xlb 0 pl_22 hS) ?_
    refine zlv (xln sl_22 hT.B.slh) ?_
    refine zlv xgeq ?_
    refine zlv xpf ?_
    refine zlv xas ?_
    refine zln <| ztn ?_
    refine zcif ?_ ?_ <;> intro hc
    ·
     refine zsq <| zrg ?_
     iterate 2 refine zlv xas ?_
     refine zln <| ztn <| zrt <| zbr <| ztr <| zf2 ⟨_, rfl, ?_⟩
     exact ⟨_, 0, fun _ => 0, 2, rfl, .inr (.inl ⟨hp, by omega, rfl, rfl⟩), slh_nil, (hS.addnil 1 3 (ints fun _ => 0)).sub (.cons _ (.cons_cons _ .slnil))⟩
    ·
     refine zsk <| zbn <| ztn <| zsq <| zrg ?_
     refine zlv (xfb 4 fd_25_4) ?_
     have hlr := hp.len (i := row + 1) (by omega) (by omega)
     refine zlv (xlb 0 pl_23 hS) ?_
     refine zlv xmv ?_
     refine zlv (xadd (r := row + 1)) ?_
     refine zlv (xix (kk := row + 1) sl_23 hT.C.row.slh) ?_
     refine zlv (xlr (u := (vv (row + 1))) pl_22 (hT.C.row.below hS.below)) ?_
     refine zlv xas ?_
     refine zln <| ztn <| zsq <| zsq ?_
     refine zdst [0] [0] 1000 mx_ hS ?_; clear hS; intro w hS
     refine zdv 0 (fun _ => xmv) ?_
     refine zdv 1 (fun _ => (xix (kk := 0) sl_22 (hT.C.p (row + 1) (by omega) (by omega)).slh)) ?_
     refine zdla 2 (fun w hS => (xlr (u := .int .i64 ((t.C (row + 1)) 0)) pl_3 ((hT.C.p (row + 1) (by omega) (by omega)).below hS.below))) ?_
     refine zdv 3 (fun _ => (xfb 1 fd_25_1)) ?_
     refine zdla 4 (fun w hS => (xlb 0 pl_3 hS)) ?_
     refine zdv 5 (fun _ => (xrem (r := (Int.tmod ((t.C (row + 1)) 0) t.den)))) ?_
     refine zdv 6 (fun _ => xeql) ?_
     refine zdd <| ztn ?_
     refine zcif ?_ ?_ <;> intro hc
     ·
      refine zsq <| zrg ?_
      iterate 2 refine zlv xas ?_
      refine zln <| ztn <| zrt <| ztr <| zf2 ⟨_, rfl, ?_⟩
      exact ⟨_, 0, fun _ => 0, 8, rfl, .inr (.inr (.inl ⟨hp, by omega, by omega, by omega, rfl, rfl⟩)), slh_nil, (hS.addnil 1 3 (ints fun _ => 0)).sub (.cons _ (.cons_cons _ .slnil))⟩
     ·
      refine zsk <| ztn <| zsq ?_
      refine zdst [0] [0] 1000 mx_ hS ?_; clear hS; intro w hS
      refine zdv 0 (fun _ => xmv) ?_
      refine zdv 1 (fun _ => (xix (kk := 0) sl_22 (hT.C.p (row + 1) (by omega) (by omega)).slh)) ?_
      refine zdla 2 (fun w hS => (xlr (u := .int .i64 ((t.C (row + 1)) 0)) pl_3 ((hT.C.p (row + 1) (by omega) (by omega)).below hS.below))) ?_
      refine zdv 3 (fun _ => (xfb 1 fd_25_1)) ?_
      refine zdla 4 (fun w hS => (xlb 0 pl_3 hS)) ?_
      have hq0 := rmd_rng (a := t.C (row + 1) 0) (d := t.den) (by omega)
      refine zdc 5 (xc0 cl_64) (c_mod (a := ((t.C (row + 1)) 0)) (d := t.den) w (by omega) (by omega)) ?_; rintro _ w ⟨rfl, hS'⟩
      replace hS := hS.cmp hS'; clear hS'
      refine ⟨⟨fun _ => hS, hS⟩, ?_⟩
      refine zdv 6 (fun _ => (xneg (r := -((rmd ((t.C (row + 1)) 0) t.den))))) ?_
      refine zda 7 (xli (n := 1) (len := 1) (pv := [(0, .int .i64 (-((rmd ((t.C (row + 1)) 0) t.den))))]) (cs := [.int .i64 (-((rmd ((t.C (row + 1)) 0) t.den)))]) (c := ints (fun _ => -((rmd ((t.C (row + 1)) 0) t.den)))) sl_22 el_3 hS) ?_; rintro v1 w ⟨hS, hv1⟩
      replace hS : Sat w0 w [.blk _ [_, _, _, _, _], _] := hS
      refine ⟨⟨fun _ => hS.pk [0], hS.pk [0]⟩, ?_⟩
      refine zdv 8 (fun _ => xas) ?_
      refine zdd <| ztn <| zsq <| zsq <| zrg ?_
      refine zlv xas ?_
      refine zln <| ztn <| zbk <| zlp (fun mm M w => ∃ (m : Int) (j : Int) (vb : Value) (g : Int → Int), mm = ((t.nf + 1 - j).toNat) ∧ (1 ≤ j) ∧ (j ≤ t.nf + 1) ∧ (m = j) ∧ (∀ j, 0 ≤ j → j < m → g j = cutF t row j) ∧ (Slh vb m) ∧ M = [(2, .pointer (some ⟨g1, 0, none⟩)), (4, .slice none 0 0), (5, .int .i64 0), (6, (vv (row + 1))), (7, vb), (8, .int .i64 j)] ∧ Sat w0 w [.blk g1 [.int .i64 t.vars, .int .i64 t.den, vB, vF, vC], .own vb 1 3 m (ints g)]) ⟨1, 1, v1, (fun _ => -((rmd ((t.C (row + 1)) 0) t.den))), rfl, (by omega), (by omega), (by omega), ?_, ?_, rfl, hS⟩ ?_
      ·
       intro j j0 j1; obtain rfl : j = 0 := by omega
       rfl
      ·
       exact hv1
      ·
       clear hS w
       rintro mm M w ⟨m, j, vb, g, rfl, h0, h1, hm, hg, hvb, rfl, hS⟩
       refine zsq <| zsq <| zrg ?_
       iterate 2 refine zlv xmv ?_
       refine zlv (xln sl_22 (hT.C.p (row + 1) (by omega) (by omega)).slh) ?_
       refine zlv xlss ?_
       refine zln <| ztn ?_
       refine zcif ?_ ?_ <;> intro hc
       ·
        refine zsk <| ztn <| zsq <| zbk ?_
        refine zdst [0] [0] 1000 mx_ hS ?_; clear hS; intro w hS
        refine zdv 0 (fun _ => xmv) ?_
        refine zdv 1 (fun _ => xmv) ?_
        refine zdv 2 (fun _ => xmv) ?_
        refine zdv 3 (fun _ => (xix (kk := j) sl_22 (hT.C.p (row + 1) (by omega) (by omega)).slh)) ?_
        refine zdla 4 (fun w hS => (xlr (u := .int .i64 ((t.C (row + 1)) j)) pl_3 ((hT.C.p (row + 1) (by omega) (by omega)).below hS.below))) ?_
        have hcx := hp.cell (i := row + 1) (j := j) (by omega) (by omega) (by omega) (by omega)
        refine zdv 5 (fun _ => (xneg (r := -(((t.C (row + 1)) j))))) ?_
        refine zdv 6 (fun _ => (xfb 1 fd_25_1)) ?_
        refine zdla 7 (fun w hS => (xlb 0 pl_3 hS)) ?_
        refine zdc 8 (xc0 cl_64) (c_mod (a := (-(((t.C (row + 1)) j)))) (d := t.den) w (by omega) (by omega)) ?_; rintro _ w ⟨rfl, hS'⟩
        replace hS := hS.cmp hS'; clear hS'
        refine ⟨⟨fun _ => hS.pk [0], hS.pk [0]⟩, ?_⟩
        refine zda 9 (xli (n := 1) (len := 1) (pv := [(0, .int .i64 (rmd (-(((t.C (row + 1)) j))) t.den))]) (cs := [.int .i64 (rmd (-(((t.C (row + 1)) j))) t.den)]) (c := ints (fun _ => (rmd (-(((t.C (row + 1)) j))) t.den))) sl_22 el_3 hS) ?_; rintro v2 w ⟨hS, hv2⟩
        replace hS : Sat w0 w [.blk _ [_, _, _, _, _], _, _] := hS
        refine ⟨⟨fun _ => hS.pk [0], hS.pk [0]⟩, ?_⟩
        refine zda 10 (xap 1 (r := m + 1) sl_22 el_3 hS (hS.rowN 2 rfl) (cat_snoc _ _ _)) ?_; rintro v3 w ⟨hS, hv3⟩
        replace hS : Sat w0 w [.blk _ [_, _, _, _, _], _, _] := hS
        refine ⟨⟨fun _ => hS.pk [0], hS.pk [0]⟩, ?_⟩
        refine zdv 11 (fun _ => xas) ?_
        refine zdd <| zbn <| ztn <| zrg ?_
        refine zlv xmv ?_
        refine zlv (xadd (r := j + 1)) ?_
        refine zlv xas ?_
        refine zln <| zlq ⟨m + 1, j + 1, v3, (snoc g m (rmd (-(((t.C (row + 1)) j))) t.den)), rfl, (by omega), (by omega), (by omega), ?_, ?_, rfl, hS.pk [0, 1]⟩
        ·
         intro q j0 j1; by_cases e : q < m
         · rw [snoc_lt e]; exact hg q j0 e
         · rw [snoc_at e]; unfold cutF; rw [if_neg (by omega), show q = j by omega]
        ·
         exact hv3
       ·
        refine zxt <| ztx <| ztx <| zbh <| ztn <| zsq <| zrg ?_
        refine zlv xmv ?_
        iterate 2 refine zlv xas ?_
        refine zln <| ztn <| zrt <| zf2 ⟨_, rfl, ?_⟩
        exact ⟨_, m, g, 0, rfl, .inr (.inr (.inr ⟨hp, by omega, by omega, by omega, by omega, hg, rfl⟩)), hvb, hS.pk [1]⟩

end Go.Proofs.Ytelfplepnodbgaa
