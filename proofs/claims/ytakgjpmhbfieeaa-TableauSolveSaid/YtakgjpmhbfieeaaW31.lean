/- The walk of TableauStep. -/
import Derived.Test.YtakgjpmhbfieeaaGc
import Derived.Test.YtakgjpmhbfieeaaW26
namespace Go.Proofs.Ytakgjpmhbfieeaa
open Go Go.RowKit Go.Proofs.Gw
set_option linter.unusedVariables false

theorem cl_26 : calledT Try.prog 26 = true := by kernel_rfl
theorem cl_27 : calledT Try.prog 27 = true := by kernel_rfl
theorem cl_28 : calledT Try.prog 28 = true := by kernel_rfl
theorem cl_29 : calledT Try.prog 29 = true := by kernel_rfl
theorem cl_54 : calledT Try.prog 54 = true := by kernel_rfl
theorem cl_55 : calledT Try.prog 55 = true := by kernel_rfl
theorem c_rnextB {vB vF vC : Value} {vv : Int → Value} {t : Tb} (w0 : World) (hT : TAt w0 vB vF vC vv t) : Calls Try.prog 26 [.agg #[.int .i64 t.vars, .int .i64 t.den, vB, vF, vC]].toArray w0 fun e w => ∃ v, e = .returned v ∧ ∃ r c d e, v = .tuple #[.int .i64 r, .int .i64 c, B (d = true), .int .i64 e] ∧ NextR t r c d e ∧ Sat w0 w [] :=
  (c_rnext w0 hT).mono fun e w h => by
    obtain ⟨v, he, r, c, d, e', hv, hn, hS⟩ := h
    exact ⟨v, he, r, c, d, e', by rw [hv, bool_B], hn, hS⟩

set_option maxRecDepth 20000 in
theorem c_rrun {vB vF vC : Value} {vv : Int → Value} {t : Tb} (w0 : World) (hT : TAt w0 vB vF vC vv t) :
    Calls Try.prog 54 [.agg #[.int .i64 t.vars, .int .i64 t.den, vB, vF, vC]].toArray w0 fun e w => ∃ v, e = .returned v ∧ ∃ xB xF xC xv u z e, v = .tuple #[.agg #[.int .i64 u.vars, .int .i64 u.den, xB, xF, xC], .int .i64 e] ∧ Run 1000 t z e ∧ (e = 0 ∨ e = 19 → z = u) ∧ Slh xB u.nb ∧ Slh xF u.nf ∧ Slh xC u.nc ∧ Sat w0 w [.sem (Frame.alt (u = t ∧ xB = vB ∧ xF = vF ∧ xC = vC ∧ xv = vv) (Frame.bun [.own xB 1 3 u.nb (ints u.B), .own xF 1 3 u.nf (ints u.F), .own xC 1 22 u.nc xv, .sem (Frame.rows 3 u.nc xv u.ln u.C)]))] := by
  refine zenG Try.func54 Try.ntmps54 fun w hS => ?_
  refine zsq <| zrg ?_
  refine zla (xbx (cs := [_, _, _, _, _]) hS) ?_; rintro _ w ⟨g1, rfl, hS⟩
  replace hS : Sat w0 w [.blk _ [_, _, _, _, _]] := hS
  refine zla (xal (cs := [_, _, _, _, _]) el_48 hS) ?_; rintro _ w ⟨g2, rfl, hS⟩
  replace hS : Sat w0 w [.blk _ [_, _, _, _, _], .blk _ [_, _, _, _, _]] := hS
  refine zlv xas ?_
  refine zln <| ztn <| zsq <| zrg ?_
  refine zlv xas ?_
  refine zln <| ztn <| zbk ?_
  replace hS := hS.altL (Frame.bun [.own vB 1 3 t.nb (ints t.B), .own vF 1 3 t.nf (ints t.F), .own vC 1 22 t.nc vv, .sem (Frame.rows 3 t.nc vv t.ln t.C)]) (p := t = t ∧ vB = vB ∧ vF = vF ∧ vC = vC ∧ vv = vv) ⟨rfl, rfl, rfl, rfl, rfl⟩
  replace hS : Sat w0 w [.blk _ [_, _, _, _, _], .blk _ [_, _, _, _, _], _] := hS
  refine zlp (fun mm M w => ∃ (u : Tb) (xB : Value) (xF : Value) (xC : Value) (xv : Int → Value) (n : Int), mm = (((1001 : Int) - n).toNat) ∧ (0 ≤ n) ∧ (n ≤ 1000) ∧ (Slh xB u.nb) ∧ (Slh xF u.nf) ∧ (Slh xC u.nc) ∧ (∀ z e, Run (1000 - n).toNat u z e → Run 1000 t z e) ∧ M = [(1, .pointer (some ⟨g1, 0, none⟩)), (2, .pointer (some ⟨g2, 0, none⟩)), (4, .int .i64 n)] ∧ Sat w0 w [.blk g1 [.int .i64 u.vars, .int .i64 u.den, xB, xF, xC], .blk g2 [.int .i64 0, .int .i64 0, .slice none 0 0, .slice none 0 0, .slice none 0 0], .sem (Frame.alt (u = t ∧ xB = vB ∧ xF = vF ∧ xC = vC ∧ xv = vv) (Frame.bun [.own xB 1 3 u.nb (ints u.B), .own xF 1 3 u.nf (ints u.F), .own xC 1 22 u.nc xv, .sem (Frame.rows 3 u.nc xv u.ln u.C)]))]) ⟨t, vB, vF, vC, vv, 0, rfl, (by omega), (by omega), ?_, ?_, ?_, ?_, rfl, hS.sub (List.Sublist.refl _)⟩ ?_
  ·
   exact hT.B.slh
  ·
   exact hT.F.slh
  ·
   exact hT.C.row.slh
  ·
   exact fun z e h => h
  ·
   clear hS w
   rintro mm M w ⟨u, xB, xF, xC, xv, n, rfl, n0, n1, hxB, hxF, hxC, hrun, rfl, hS⟩
   have htu := tat_alt (hT.below hS.below) hS 2 rfl
   have hub := htu.B.slh.n0; have hub1 := htu.B.slh.n1; have huf := htu.F.slh.n0; have huf1 := htu.F.slh.n1
   refine zsq <| zbk <| zsq <| zrg ?_
   refine zlv (xls 0 st_48 hS) ?_
   refine zlc (xc0 cl_26) (c_rnextB (t := u) w (tat_alt (hT.below hS.below) hS 2 rfl)) ?_; rintro _ w ⟨rn1, cn1, dn1, en1, rfl, hnn1, hS'⟩
   replace hS := hS.cmp hS'; clear hS'
   have hrc := hnn1.rng
   refine zlv xmv ?_
   iterate 4 refine zlv xex ?_
   iterate 4 refine zlv xas ?_
   refine zln <| ztn <| zsq <| zbk <| zsq <| zrg ?_
   refine zlv xmv ?_
   refine zlv xneq ?_
   refine zlv xmv ?_
   refine zlb 22 ?_ ?_ <;> intro hc
   ·
    refine zlo ?_
    refine zlv xpt ?_
    refine zlv xas ?_
    refine zln <| ztn <| zct <| zsq <| zrg ?_
    refine zlv (xls 0 st_48 hS) ?_
    refine zlv xmv ?_
    refine zle (xsw 1 st_48 hS (hd := (ones_cons rfl (ones_cons rfl (ones_cons hxB.one (ones_cons hxF.one (ones_cons hxC.one ones_nil))))))) ?_; clear hS; rintro w hS
    replace hS : Sat w0 w [.blk _ [_, _, _, _, _], .blk _ [_, _, _, _, _], _] := hS
    refine zlv xas ?_
    refine zln <| ztn <| zrt <| zbr <| ztr <| zbr <| ztr <| ztr <| zbr <| zfct 1 st_48 hS ⟨_, rfl, ?_⟩
    exact ⟨xB, xF, xC, xv, u, u, _, rfl, hrun _ _ (.stop hnn1 (by first | exact .inl hc | exact .inr (by omega) | exact .inl ‹_›)), fun _ => rfl, hxB, hxF, hxC, hS.pk [2]⟩
   ·
    refine zlv xmv ?_
    refine zlv xpf ?_
    refine zlv xas ?_
    refine zln <| ztn ?_
    refine zcif ?_ ?_ <;> intro hc
    ·
     refine zsq <| zrg ?_
     refine zlv (xls 0 st_48 hS) ?_
     refine zlv xmv ?_
     refine zle (xsw 1 st_48 hS (hd := (ones_cons rfl (ones_cons rfl (ones_cons hxB.one (ones_cons hxF.one (ones_cons hxC.one ones_nil))))))) ?_; clear hS; rintro w hS
     replace hS : Sat w0 w [.blk _ [_, _, _, _, _], .blk _ [_, _, _, _, _], _] := hS
     refine zlv xas ?_
     refine zln <| ztn <| zrt <| zbr <| ztr <| zbr <| ztr <| ztr <| zbr <| zfct 1 st_48 hS ⟨_, rfl, ?_⟩
     exact ⟨xB, xF, xC, xv, u, u, _, rfl, hrun _ _ (.stop hnn1 (by first | exact .inl hc | exact .inr (by omega) | exact .inl ‹_›)), fun _ => rfl, hxB, hxF, hxC, hS.pk [2]⟩
    ·
     refine zsq <| zrg ?_
     refine zlv xmv ?_
     have hn0 : NextR u rn1 cn1 false 0 := by have h1 : dn1 = false := (by simpa using ‹¬ (dn1 = true)›); have h2 : en1 = 0 := (by omega); have h3 := hnn1; rw [h1, h2] at h3; exact h3
     have hpu := (hn0.prp (by omega)).1; have hq1 := hpu.n2; have hq2 := hpu.m2
     refine zlv xeql ?_
     refine zlv xas ?_
     refine zln <| ztn ?_
     refine zcif ?_ ?_ <;> intro hc
     ·
      refine zsq <| zrg ?_
      refine zlv (xany (v := .agg #[.int .i64 0, .int .i64 0, .slice none 0 0, .slice none 0 0, .slice none 0 0])) ?_
      refine zle (xsw 1 st_48 hS) ?_; clear hS; rintro w hS
      replace hS : Sat w0 w [.blk _ [_, _, _, _, _], .blk _ [_, _, _, _, _], _] := hS
      refine zlv xas ?_
      refine zln <| ztn <| zrt <| zbr <| ztr <| zbr <| ztr <| ztr <| zbr <| zfct 1 st_48 hS ⟨_, rfl, ?_⟩
      replace hS := ((((hS.sub (.cons _ (.cons _ (.cons _ .slnil)))).addnil 1 3 (ints Tb.zero.B)).addnil 1 3 (ints Tb.zero.F)).addnil 1 22 (fun _ => undef)).addrows 3 (fun _ => undef) Tb.zero.ln Tb.zero.C
      exact ⟨_, _, _, fun _ => undef, Tb.zero, _, _, rfl, hrun _ _ (by rw [show (1000 - n).toNat = 0 by omega]; exact .lim hn0), fun h => by omega, slh_nil, slh_nil, slh_nil, Sat.altR (Tb.zero = t ∧ (Value.slice none 0 0) = vB ∧ (Value.slice none 0 0) = vF ∧ (Value.slice none 0 0) = vC ∧ (fun _ => undef) = vv) (l1 := []) (l2 := []) (Sat.bundle (l1 := []) hS)⟩
     ·
      refine zsk <| zbn <| ztn <| zsq <| zrg ?_
      refine zlv (xls 0 st_48 hS) ?_
      iterate 2 refine zlv xmv ?_
      refine zlc (xc0 cl_27) (c_rpivot (t := u) (row := rn1) (col := cn1) w (tat_alt (hT.below hS.below) hS 2 rfl) (by omega) (by omega)) ?_; rintro _ w ⟨vBk1, vFk1, vCk1, vvk1, tk1, ek1, rfl, hpvk1, hsBk1, hsFk1, hsCk1, hS'⟩
      replace hS : Sat w0 w [.blk g1 [.int .i64 u.vars, .int .i64 u.den, xB, xF, xC], .blk g2 [.int .i64 0, .int .i64 0, .slice none 0 0, .slice none 0 0, .slice none 0 0], .sem (Frame.alt (u = t ∧ xB = vB ∧ xF = vF ∧ xC = vC ∧ xv = vv) (Frame.bun [.own xB 1 3 u.nb (ints u.B), .own xF 1 3 u.nf (ints u.F), .own xC 1 22 u.nc xv, .sem (Frame.rows 3 u.nc xv u.ln u.C)])), .own vBk1 1 3 tk1.nb (ints tk1.B), .own vFk1 1 3 tk1.nf (ints tk1.F), .own vCk1 1 22 tk1.nc vvk1, .sem (Frame.rows 3 tk1.nc vvk1 tk1.ln tk1.C)] := hS.comp hS'; clear hS'
      have hrsk1 := fun k (k0 : 0 ≤ k) (k1 : k < tk1.nc) => hS.slhIn 6 rfl k0 k1
      refine zlv xmv ?_
      iterate 2 refine zlv xex ?_
      refine zla (xal (cs := [_, _, _, _, _]) el_48 hS) ?_; rintro _ w ⟨g3, rfl, hS⟩
      replace hS : Sat w0 w [.blk _ [_, _, _, _, _], .blk _ [_, _, _, _, _], _, _, _, _, _, .blk _ [_, _, _, _, _]] := hS
      refine zle (xsw 7 st_48 hS (hd := (ones_cons rfl (ones_cons rfl (ones_cons hsBk1.one (ones_cons hsFk1.one (ones_cons hsCk1.one ones_nil))))))) ?_; clear hS; rintro w hS
      replace hS : Sat w0 w [.blk _ [_, _, _, _, _], .blk _ [_, _, _, _, _], _, _, _, _, _, .blk _ [_, _, _, _, _]] := hS
      refine zlv xas ?_
      refine zln <| ztn <| zsq <| zsq <| zrg ?_
      refine zlv xmv ?_
      refine zlv xneq ?_
      refine zln <| ztn ?_
      refine zcif ?_ ?_ <;> intro hc
      ·
       refine zsq <| zrg ?_
       refine zlv (xany (v := .agg #[.int .i64 0, .int .i64 0, .slice none 0 0, .slice none 0 0, .slice none 0 0])) ?_
       refine zlv xmv ?_
       refine zle (xsw 1 st_48 hS) ?_; clear hS; rintro w hS
       replace hS : Sat w0 w [.blk _ [_, _, _, _, _], .blk _ [_, _, _, _, _], _, _, _, _, _, .blk _ [_, _, _, _, _]] := hS
       refine zlv xas ?_
       refine zln <| ztn <| zrt <| ztr <| zbr <| ztr <| ztr <| zbr <| zfct 1 st_48 hS ⟨_, rfl, ?_⟩
       replace hS := ((((hS.sub (.cons _ (.cons _ (.cons _ (.cons _ (.cons _ (.cons _ (.cons _ (.cons _ .slnil))))))))).addnil 1 3 (ints Tb.zero.B)).addnil 1 3 (ints Tb.zero.F)).addnil 1 22 (fun _ => undef)).addrows 3 (fun _ => undef) Tb.zero.ln Tb.zero.C
       exact ⟨_, _, _, fun _ => undef, Tb.zero, _, _, rfl, hrun _ _ (by rw [show (1000 - n).toNat = (1000 - (n + 1)).toNat + 1 by omega]; exact .bad hn0 hpvk1 (by omega)), fun h => by rcases hpvk1 with ⟨_, _, h1⟩ | ⟨_, _, _, h1⟩ | ⟨_, _, _, _, h1⟩ | ⟨_, _, _, _, h1⟩ <;> omega, slh_nil, slh_nil, slh_nil, Sat.altR (Tb.zero = t ∧ (Value.slice none 0 0) = vB ∧ (Value.slice none 0 0) = vF ∧ (Value.slice none 0 0) = vC ∧ (fun _ => undef) = vv) (l1 := []) (l2 := []) (Sat.bundle (l1 := []) hS)⟩
      ·
       refine zsk <| ztn <| zrg ?_
       refine zlv (xls 7 st_48 hS) ?_
       refine zle (xsw 0 st_48 hS (hd := (ones_cons rfl (ones_cons rfl (ones_cons hsBk1.one (ones_cons hsFk1.one (ones_cons hsCk1.one ones_nil))))))) ?_; clear hS; rintro w hS
       replace hS : Sat w0 w [.blk _ [_, _, _, _, _], .blk _ [_, _, _, _, _], _, _, _, _, _, .blk _ [_, _, _, _, _]] := hS
       refine zln <| zbn <| ztn <| zrg ?_
       refine zlv xmv ?_
       replace hS := hS.sub (.cons_cons _ (.cons_cons _ (.cons _ (.cons_cons _ (.cons_cons _ (.cons_cons _ (.cons_cons _ (.cons _ .slnil))))))))
       replace hS : Sat w0 w [.blk _ [_, _, _, _, _], .blk _ [_, _, _, _, _], _, _, _, _] := hS
       replace hS := Sat.altR (tk1 = t ∧ vBk1 = vB ∧ vFk1 = vF ∧ vCk1 = vC ∧ vvk1 = vv) (l1 := [.blk g1 [.int .i64 tk1.vars, .int .i64 tk1.den, vBk1, vFk1, vCk1], .blk g2 [.int .i64 0, .int .i64 0, .slice none 0 0, .slice none 0 0, .slice none 0 0]]) (l2 := []) (Sat.bundle (l1 := [.blk g1 [.int .i64 tk1.vars, .int .i64 tk1.den, vBk1, vFk1, vCk1], .blk g2 [.int .i64 0, .int .i64 0, .slice none 0 0, .slice none 0 0, .slice none 0 0]]) (l2 := [.own vBk1 1 3 tk1.nb (ints tk1.B), .own vFk1 1 3 tk1.nf (ints tk1.F), .own vCk1 1 22 tk1.nc vvk1, .sem (Frame.rows 3 tk1.nc vvk1 tk1.ln tk1.C)]) hS)
       replace hS : Sat w0 w [.blk _ [_, _, _, _, _], .blk _ [_, _, _, _, _], _] := hS
       refine zlv (xadd (r := n + 1)) ?_
       refine zlv xas ?_
       refine zln <| zlq ⟨tk1, vBk1, vFk1, vCk1, vvk1, n + 1, rfl, (by omega), (by omega), ?_, ?_, ?_, ?_, rfl, hS.sub (List.Sublist.refl _)⟩
       ·
        exact hsBk1
       ·
        exact hsFk1
       ·
        exact hsCk1
       ·
        intro z e hz; have he0 : ek1 = 0 := (by omega); rw [he0] at hpvk1; exact hrun z e (by rw [show (1000 - n).toNat = (1000 - (n + 1)).toNat + 1 by omega]; exact .go hn0 hpvk1 hz)

def OptR (t t' : Tb) (e : Int) : Prop := ∃ u f, Run 1000 t u f ∧ ((f = 0 ∧ e = 0 ∧ t' = u) ∨ (f ≠ 0 ∧ e = f ∧ t' = Tb.zero))
theorem OptR.same {t t1 t2 : Tb} {e1 e2 : Int} (h1 : OptR t t1 e1) (h2 : OptR t t2 e2) : t1 = t2 ∧ e1 = e2 := by
  obtain ⟨u, f, hr, h⟩ := h1
  obtain ⟨u', f', hr', h'⟩ := h2
  obtain ⟨rfl, rfl⟩ := hr.same hr'
  rcases h with ⟨a1, a2, a3⟩ | ⟨a1, a2, a3⟩ <;> rcases h' with ⟨b1, b2, b3⟩ | ⟨b1, b2, b3⟩
  · exact ⟨by rw [a3, b3], by omega⟩
  · exact absurd a1 b1
  · exact absurd b1 a1
  · exact ⟨by rw [a3, b3], by omega⟩

set_option maxRecDepth 20000 in
theorem c_Optimize {vB vF vC : Value} {vv : Int → Value} {t : Tb} (w0 : World) (hT : TAt w0 vB vF vC vv t) :
    Calls Try.prog 28 [.agg #[.int .i64 t.vars, .int .i64 t.den, vB, vF, vC]].toArray w0 fun e w => ∃ v, e = .returned v ∧ ∃ vB vF vC vv t' e, v = .tuple #[.agg #[.int .i64 t'.vars, .int .i64 t'.den, vB, vF, vC], .int .i64 e] ∧ OptR t t' e ∧ Slh vB t'.nb ∧ Slh vF t'.nf ∧ Slh vC t'.nc ∧ Sat w0 w [.own vB 1 3 t'.nb (ints t'.B), .own vF 1 3 t'.nf (ints t'.F), .own vC 1 22 t'.nc vv, .sem (Frame.rows 3 t'.nc vv t'.ln t'.C)] := by
  refine zenG Try.func28 Try.ntmps28 fun w hS => ?_
  refine zsq <| zrg ?_
  refine zla (xbx (cs := [_, _, _, _, _]) hS) ?_; rintro _ w ⟨g1, rfl, hS⟩
  replace hS : Sat w0 w [.blk _ [_, _, _, _, _]] := hS
  refine zla (xal (cs := [_, _, _, _, _]) el_43 hS) ?_; rintro _ w ⟨g2, rfl, hS⟩
  replace hS : Sat w0 w [.blk _ [_, _, _, _, _], .blk _ [_, _, _, _, _]] := hS
  refine zlv xas ?_
  refine zln <| ztn <| zsq <| zrg ?_
  refine zlv (xls 0 st_43 hS) ?_
  refine zlc (xc0 cl_40) (c_optimize (t := t) w (hT.below hS.below)) ?_; rintro _ w ⟨xBu1, xFu1, xCu1, xvu1, uu1, euu1, rfl, hrunu1, hxBu1, hxFu1, hxCu1, hS'⟩
  replace hS : Sat w0 w [.blk g1 [.int .i64 t.vars, .int .i64 t.den, vB, vF, vC], .blk g2 [.int .i64 0, .int .i64 0, .slice none 0 0, .slice none 0 0, .slice none 0 0], .sem (Frame.alt (uu1 = t ∧ xBu1 = vB ∧ xFu1 = vF ∧ xCu1 = vC ∧ xvu1 = vv) (Frame.bun [.own xBu1 1 3 uu1.nb (ints uu1.B), .own xFu1 1 3 uu1.nf (ints uu1.F), .own xCu1 1 22 uu1.nc xvu1, .sem (Frame.rows 3 uu1.nc xvu1 uu1.ln uu1.C)]))] := hS.comp hS'; clear hS'
  have hxru1 := fun k (k0 : 0 ≤ k) (k1 : k < uu1.nc) => ((tat_alt (hT.below hS.below) hS 2 rfl).C.p k k0 k1).slh
  refine zlv xmv ?_
  iterate 2 refine zlv xex ?_
  refine zla (xal (cs := [_, _, _, _, _]) el_43 hS) ?_; rintro _ w ⟨g3, rfl, hS⟩
  replace hS : Sat w0 w [.blk _ [_, _, _, _, _], .blk _ [_, _, _, _, _], _, .blk _ [_, _, _, _, _]] := hS
  refine zle (xsw 3 st_43 hS (hd := (ones_cons rfl (ones_cons rfl (ones_cons hxBu1.one (ones_cons hxFu1.one (ones_cons hxCu1.one ones_nil))))))) ?_; clear hS; rintro w hS
  replace hS : Sat w0 w [.blk _ [_, _, _, _, _], .blk _ [_, _, _, _, _], _, .blk _ [_, _, _, _, _]] := hS
  refine zlv xas ?_
  refine zln <| ztn <| zsq <| zsq <| zrg ?_
  refine zlv xmv ?_
  refine zlv xneq ?_
  refine zln <| ztn ?_
  refine zcif ?_ ?_ <;> intro hc
  ·
   refine zsq <| zrg ?_
   refine zlv (xany (v := .agg #[.int .i64 0, .int .i64 0, .slice none 0 0, .slice none 0 0, .slice none 0 0])) ?_
   refine zlv xmv ?_
   refine zle (xsw 1 st_43 hS) ?_; clear hS; rintro w hS
   replace hS : Sat w0 w [.blk _ [_, _, _, _, _], .blk _ [_, _, _, _, _], _, .blk _ [_, _, _, _, _]] := hS
   refine zlv xas ?_
   refine zln <| ztn <| zrt <| ztr <| zfct 1 st_43 hS ⟨_, rfl, ?_⟩
   exact ⟨_, _, _, fun _ => undef, Tb.zero, _, rfl, ⟨_, _, hrunu1, .inr ⟨by omega, rfl, rfl⟩⟩, slh_nil, slh_nil, slh_nil, ((((hS.sub (.cons _ (.cons _ (.cons _ (.cons _ .slnil))))).addnil 1 3 (ints Tb.zero.B)).addnil 1 3 (ints Tb.zero.F)).addnil 1 22 (fun _ => undef)).addrows 3 (fun _ => undef) Tb.zero.ln Tb.zero.C⟩
  ·
   refine zsk <| ztn <| zsq <| ?_
   refine zgcut (fun M w => ∃ (vq1 : Value) (vq2 : Value) (voq3 : Value) (vwq3 : Int → Value), (Slh vq1 uu1.nb) ∧ (Slh vq2 uu1.nf) ∧ (Slh voq3 uu1.nc) ∧ (∀ k, 0 ≤ k → k < uu1.nc → Slh (vwq3 k) (uu1.ln k)) ∧ M = [(0, .agg #[.int .i64 t.vars, .int .i64 t.den, vB, vF, vC]), (1, .pointer (some ⟨g1, 0, none⟩)), (2, .pointer (some ⟨g2, 0, none⟩)), (3, .int .i64 0), (7, .agg #[.int .i64 t.vars, .int .i64 t.den, vB, vF, vC]), (8, .tuple #[.agg #[.int .i64 uu1.vars, .int .i64 uu1.den, xBu1, xFu1, xCu1], .int .i64 euu1]), (6, .tuple #[.agg #[.int .i64 uu1.vars, .int .i64 uu1.den, xBu1, xFu1, xCu1], .int .i64 euu1]), (9, .agg #[.int .i64 uu1.vars, .int .i64 uu1.den, xBu1, xFu1, xCu1]), (10, .int .i64 euu1), (4, .pointer (some ⟨g3, 0, none⟩)), (5, .int .i64 euu1), (11, .int .i64 euu1), (12, B (euu1 ≠ 0)), (15, .pointer (some ⟨g3, 2, none⟩)), (16, xBu1), (18, .pointer (some ⟨g3, 3, none⟩)), (19, xFu1), (21, .pointer (some ⟨g3, 4, none⟩)), (22, xCu1), (17, vq1), (24, .pointer (some ⟨g3, 2, none⟩)), (20, vq2), (23, voq3), (25, .pointer (some ⟨g3, 3, none⟩)), (26, .pointer (some ⟨g3, 4, none⟩))] ∧ Sat w0 w [.blk g1 [.int .i64 t.vars, .int .i64 t.den, vB, vF, vC], .blk g2 [.int .i64 0, .int .i64 0, .slice none 0 0, .slice none 0 0, .slice none 0 0], .sem (Frame.alt (uu1 = t ∧ xBu1 = vB ∧ xFu1 = vF ∧ xCu1 = vC ∧ xvu1 = vv) (Frame.bun [.own xBu1 1 3 uu1.nb (ints uu1.B), .own xFu1 1 3 uu1.nf (ints uu1.F), .own xCu1 1 22 uu1.nc xvu1, .sem (Frame.rows 3 uu1.nc xvu1 uu1.ln uu1.C)])), .blk g3 [.int .i64 uu1.vars, .int .i64 uu1.den, vq1, vq2, voq3], .own vq1 1 3 uu1.nb (ints uu1.B), .own vq2 1 3 uu1.nf (ints uu1.F), .own voq3 1 22 uu1.nc vwq3, .sem (Frame.rows 3 uu1.nc vwq3 uu1.ln uu1.C)]) ?_ ?_
   ·
    refine zdst [0, 1, 2, 3] [0, 1, 2] 10 mx_ hS ?_; clear hS; intro w hS
    refine zdv 0 (fun _ => (xfb 2 fd_43_2)) ?_
    obtain ⟨hp, _, _, _⟩ := hrunu1.fin (.inl (by omega))
    have b1 := hp.n1
    have b2 := hp.n2
    have b3 := hp.m2
    have b4 := hp.v
    have b5 := hp.d1
    have b6 := hp.d2
    have b7 := hp.c
    refine zdl 1 (fun w hS => (xlb 3 pl_22 hS)) ?_
    refine zdv 3 (fun _ => (xfb 3 fd_43_3)) ?_
    refine zdl 4 (fun w hS => (xlb 3 pl_22 hS)) ?_
    refine zdv 6 (fun _ => (xfb 4 fd_43_4)) ?_
    refine zdl 7 (fun w hS => (xlb 3 pl_23 hS)) ?_
    refine zdc 2 (xc0 cl_48) (c_clone (n := uu1.nb) (f := uu1.B) w (tat_alt (hT.below hS.below) hS 2 rfl).B (by omega)) ?_; rintro vq1 w ⟨_, rfl, hslq1, hS'⟩
    replace hS : Sat w0 w [.blk g1 [.int .i64 t.vars, .int .i64 t.den, vB, vF, vC], .blk g2 [.int .i64 0, .int .i64 0, .slice none 0 0, .slice none 0 0, .slice none 0 0], .sem (Frame.alt (uu1 = t ∧ xBu1 = vB ∧ xFu1 = vF ∧ xCu1 = vC ∧ xvu1 = vv) (Frame.bun [.own xBu1 1 3 uu1.nb (ints uu1.B), .own xFu1 1 3 uu1.nf (ints uu1.F), .own xCu1 1 22 uu1.nc xvu1, .sem (Frame.rows 3 uu1.nc xvu1 uu1.ln uu1.C)])), .blk g3 [.int .i64 uu1.vars, .int .i64 uu1.den, xBu1, xFu1, xCu1], .own vq1 1 3 uu1.nb (ints uu1.B)] := hS.comp hS'; clear hS'
    refine ⟨⟨fun _ => hS.pk [0, 1, 2, 3], hS.pk [0, 1, 2]⟩, ?_⟩
    refine zdv 9 (fun _ => (xfb 2 fd_43_2)) ?_
    refine zdc 5 (xc0 cl_48) (c_clone (n := uu1.nf) (f := uu1.F) w (tat_alt (hT.below hS.below) hS 2 rfl).F (by omega)) ?_; rintro vq2 w ⟨_, rfl, hslq2, hS'⟩
    replace hS : Sat w0 w [.blk g1 [.int .i64 t.vars, .int .i64 t.den, vB, vF, vC], .blk g2 [.int .i64 0, .int .i64 0, .slice none 0 0, .slice none 0 0, .slice none 0 0], .sem (Frame.alt (uu1 = t ∧ xBu1 = vB ∧ xFu1 = vF ∧ xCu1 = vC ∧ xvu1 = vv) (Frame.bun [.own xBu1 1 3 uu1.nb (ints uu1.B), .own xFu1 1 3 uu1.nf (ints uu1.F), .own xCu1 1 22 uu1.nc xvu1, .sem (Frame.rows 3 uu1.nc xvu1 uu1.ln uu1.C)])), .blk g3 [.int .i64 uu1.vars, .int .i64 uu1.den, xBu1, xFu1, xCu1], .own vq1 1 3 uu1.nb (ints uu1.B), .own vq2 1 3 uu1.nf (ints uu1.F)] := hS.comp hS'; clear hS'
    refine ⟨⟨fun _ => hS.pk [0, 1, 2, 3], hS.pk [0, 1, 2]⟩, ?_⟩
    refine zdc 8 (xc0 cl_49) (c_cloned (n := uu1.nc) (vv := xvu1) (ln := uu1.ln) (f := uu1.C) w (tat_alt (hT.below hS.below) hS 2 rfl).C (by omega) (fun k k0 k1 => by have := hp.len (i := k) (by omega) (by omega); omega)) ?_; rintro voq3 w ⟨_, vwq3, rfl, hslq3, hS'⟩
    replace hS : Sat w0 w [.blk g1 [.int .i64 t.vars, .int .i64 t.den, vB, vF, vC], .blk g2 [.int .i64 0, .int .i64 0, .slice none 0 0, .slice none 0 0, .slice none 0 0], .sem (Frame.alt (uu1 = t ∧ xBu1 = vB ∧ xFu1 = vF ∧ xCu1 = vC ∧ xvu1 = vv) (Frame.bun [.own xBu1 1 3 uu1.nb (ints uu1.B), .own xFu1 1 3 uu1.nf (ints uu1.F), .own xCu1 1 22 uu1.nc xvu1, .sem (Frame.rows 3 uu1.nc xvu1 uu1.ln uu1.C)])), .blk g3 [.int .i64 uu1.vars, .int .i64 uu1.den, xBu1, xFu1, xCu1], .own vq1 1 3 uu1.nb (ints uu1.B), .own vq2 1 3 uu1.nf (ints uu1.F), .own voq3 1 22 uu1.nc vwq3, .sem (Frame.rows 3 uu1.nc vwq3 uu1.ln uu1.C)] := hS.comp hS'; clear hS'
    have hrsq3 := fun k (k0 : 0 ≤ k) (k1 : k < uu1.nc) => hS.slhIn 7 rfl k0 k1
    refine ⟨⟨fun _ => hS.pk [0, 1, 2, 3], hS.pk [0, 1, 2]⟩, ?_⟩
    refine zde 10 (xsb 3 pl_22 hS (hv := hslq1.one)) ?_; clear hS; rintro w hS
    replace hS : Sat w0 w [.blk _ [_, _, _, _, _], .blk _ [_, _, _, _, _], _, .blk _ [_, _, _, _, _], _, _, _, _] := hS
    refine ⟨⟨fun h => absurd h (by decide), hS.pk [0, 1, 2]⟩, ?_⟩
    refine zdv 11 (fun _ => (xfb 3 fd_43_3)) ?_
    refine zde 12 (xsb 3 pl_22 hS (hv := hslq2.one)) ?_; clear hS; rintro w hS
    replace hS : Sat w0 w [.blk _ [_, _, _, _, _], .blk _ [_, _, _, _, _], _, .blk _ [_, _, _, _, _], _, _, _, _] := hS
    refine ⟨⟨fun h => absurd h (by decide), hS.pk [0, 1, 2]⟩, ?_⟩
    refine zdv 13 (fun _ => (xfb 4 fd_43_4)) ?_
    refine zde 14 (xsb 3 pl_23 hS (hv := hslq3.one)) ?_; clear hS; rintro w hS
    replace hS : Sat w0 w [.blk _ [_, _, _, _, _], .blk _ [_, _, _, _, _], _, .blk _ [_, _, _, _, _], _, _, _, _] := hS
    refine ⟨⟨fun h => absurd h (by decide), hS.pk [0, 1, 2]⟩, ?_⟩
    refine zdd <| zgj ⟨vq1, vq2, voq3, vwq3, hslq1, hslq2, hslq3, hrsq3, rfl, hS⟩
   ·
    clear hS w; rintro M w ⟨vq1, vq2, voq3, vwq3, hslq1, hslq2, hslq3, hrsq3, rfl, hS⟩
    refine ztn <| zsq <| zrg ?_
    refine zlv (xls 3 st_43 hS) ?_
    refine zle (xsw 1 st_43 hS (hd := (ones_cons rfl (ones_cons rfl (ones_cons hslq1.one (ones_cons hslq2.one (ones_cons hslq3.one ones_nil))))))) ?_; clear hS; rintro w hS
    replace hS : Sat w0 w [.blk _ [_, _, _, _, _], .blk _ [_, _, _, _, _], _, .blk _ [_, _, _, _, _], _, _, _, _] := hS
    refine zlv xas ?_
    refine zln <| ztn <| zrt <| zfct 1 st_43 hS ⟨_, rfl, ?_⟩
    have he0 : euu1 = 0 := by omega
    rw [he0] at hrunu1
    exact ⟨_, _, _, _, uu1, 0, rfl, ⟨_, _, hrunu1, .inl ⟨rfl, rfl, rfl⟩⟩, hslq1, hslq2, hslq3, hS.pk [4, 5, 6, 7]⟩

set_option maxRecDepth 20000 in
theorem c_copy {vB vF vC : Value} {vv : Int → Value} {t : Tb} (w0 : World) (hT : TAt w0 vB vF vC vv t) (hp : TPrp t) :
    Calls Try.prog 55 [.agg #[.int .i64 t.vars, .int .i64 t.den, vB, vF, vC]].toArray w0 fun e w => ∃ v, e = .returned v ∧ ∃ xB xF xC xv, v = .agg #[.int .i64 t.vars, .int .i64 t.den, xB, xF, xC] ∧ Slh xB t.nb ∧ Slh xF t.nf ∧ Slh xC t.nc ∧ Sat w0 w [.own xB 1 3 t.nb (ints t.B), .own xF 1 3 t.nf (ints t.F), .own xC 1 22 t.nc xv, .sem (Frame.rows 3 t.nc xv t.ln t.C)] := by
  have hn := hT.F.slh.n0; have hn1 := hT.F.slh.n1; have hb := hT.B.slh.n0; have hb1 := hT.B.slh.n1; have hc0 := hT.C.row.slh.n0; have hc1 := hT.C.row.slh.n1
  have b1 := hp.n1; have b2 := hp.n2; have b3 := hp.m2; have b4 := hp.v; have b5 := hp.d1; have b6 := hp.d2; have b7 := hp.c
  refine zenG Try.func55 Try.ntmps55 fun w hS => ?_
  refine zsq <| zrg ?_
  refine zla (xbx (cs := [_, _, _, _, _]) hS) ?_; rintro _ w ⟨g1, rfl, hS⟩
  replace hS : Sat w0 w [.blk _ [_, _, _, _, _]] := hS
  refine zla (xal (cs := [_, _, _, _, _]) el_48 hS) ?_; rintro _ w ⟨g2, rfl, hS⟩
  replace hS : Sat w0 w [.blk _ [_, _, _, _, _], .blk _ [_, _, _, _, _]] := hS
  refine zln <| ztn <| zsq <| ?_
  refine zgcut (fun M w => ∃ (g3 : Nat) (v1 : Value) (v2 : Value) (v3 : Value) (v4 : Value), (Slh v2 t.nb) ∧ (Slh v4 t.nf) ∧ M = [(0, .agg #[.int .i64 t.vars, .int .i64 t.den, vB, vF, vC]), (1, .pointer (some ⟨g1, 0, none⟩)), (2, .pointer (some ⟨g2, 0, none⟩)), (5, .pointer (some ⟨g1, 0, none⟩)), (6, .int .i64 t.vars), (7, .pointer (some ⟨g1, 1, none⟩)), (8, .int .i64 t.den), (10, .pointer (some ⟨g1, 2, none⟩)), (11, vB), (14, .pointer (some ⟨g1, 3, none⟩)), (15, vF), (9, v1), (12, v2), (13, v3), (16, v4), (17, .agg #[.int .i64 t.vars, .int .i64 t.den, v2, v4, .slice none 0 0]), (3, .pointer (some ⟨g3, 0, none⟩))] ∧ Sat w0 w [.blk g1 [.int .i64 t.vars, .int .i64 t.den, vB, vF, vC], .blk g2 [.int .i64 0, .int .i64 0, .slice none 0 0, .slice none 0 0, .slice none 0 0], .own v2 1 3 t.nb (ints (cat 0 (fun _ => 0) t.B)), .own v4 1 3 t.nf (ints (cat 0 (fun _ => 0) t.F)), .blk g3 [.int .i64 t.vars, .int .i64 t.den, v2, v4, .slice none 0 0]]) ?_ ?_
  ·
   refine zdst [0, 1] [0, 1] 14 mx_ hS ?_; clear hS; intro w hS
   refine zdv 0 (fun _ => (xfb 0 fd_48_0)) ?_
   refine zdla 1 (fun w hS => (xlb 0 pl_3 hS)) ?_
   refine zdv 2 (fun _ => (xfb 1 fd_48_1)) ?_
   refine zdla 3 (fun w hS => (xlb 0 pl_3 hS)) ?_
   refine zdv 5 (fun _ => (xfb 2 fd_48_2)) ?_
   refine zdla 6 (fun w hS => (xlb 0 pl_22 hS)) ?_
   refine zdv 9 (fun _ => (xfb 3 fd_48_3)) ?_
   refine zdla 10 (fun w hS => (xlb 0 pl_22 hS)) ?_
   refine zdfk (r := [4, 8, 13]) ((zdn1 ?_ (zdn1 ?_ (zdn1 ?_ zdn0))))
   ·
    refine zka (xl0 (c := ints (fun _ => 0)) sl_22 hS) ?_; rintro v1 w ⟨hS, hv1⟩
    replace hS : Sat w0 w [.blk _ [_, _, _, _, _], .blk _ [_, _, _, _, _], _] := hS
    refine ⟨⟨fun _ => hS.pk [0, 1], hS.pk [0, 1]⟩, ?_⟩
    refine zdfk (r := [7, 8, 13]) ((zdn1 ?_ (zdn1 ?_ (zdn1 ?_ zdn0))))
    ·
     refine zka (xap 2 (r := t.nb) (f := ints (cat 0 (fun _ => 0) t.B)) sl_22 el_3 hS (hT.B.below hS.below) (by exact cat_ints1 _ _ _)) ?_; rintro v2 w ⟨hS, hv2⟩
     replace hS : Sat w0 w [.blk _ [_, _, _, _, _], .blk _ [_, _, _, _, _], _] := hS
     refine ⟨⟨fun _ => hS.pk [0, 1], hS.pk [0, 1]⟩, ?_⟩
     refine zdfk (r := [8, 13]) ((zdn1 ?_ (zdn1 ?_ zdn0)))
     ·
      refine zka (xl0 (c := ints (fun _ => 0)) sl_22 hS) ?_; rintro v3 w ⟨hS, hv3⟩
      replace hS : Sat w0 w [.blk _ [_, _, _, _, _], .blk _ [_, _, _, _, _], _, _] := hS
      refine ⟨⟨fun _ => hS.pk [0, 1], hS.pk [0, 1]⟩, ?_⟩
      refine zdfk (r := [11, 13]) ((zdn1 ?_ (zdn1 ?_ zdn0)))
      ·
       refine zka (xap 3 (r := t.nf) (f := ints (cat 0 (fun _ => 0) t.F)) sl_22 el_3 hS (hT.F.below hS.below) (by exact cat_ints1 _ _ _)) ?_; rintro v4 w ⟨hS, hv4⟩
       replace hS : Sat w0 w [.blk _ [_, _, _, _, _], .blk _ [_, _, _, _, _], _, _] := hS
       refine ⟨⟨fun _ => hS.pk [0, 1], hS.pk [0, 1]⟩, ?_⟩
       refine zdv 12 (fun _ => (xany (v := .agg #[.int .i64 t.vars, .int .i64 t.den, v2, v4, .slice none 0 0]) (hr := by obtain ⟨_, _, _, _, rfl, _⟩ := hv2; obtain ⟨_, _, _, _, rfl, _⟩ := hv4; kernel_rfl))) ?_
       refine zda 13 (xal (cs := [_, _, _, _, _]) el_48 hS) ?_; rintro _ w ⟨g3, rfl, hS⟩
       replace hS : Sat w0 w [.blk _ [_, _, _, _, _], .blk _ [_, _, _, _, _], _, _, .blk _ [_, _, _, _, _]] := hS
       refine ⟨⟨fun _ => hS.pk [0, 1], hS.pk [0, 1]⟩, ?_⟩
       refine zde 14 (xsw 4 st_48 hS (hd := (ones_cons rfl (ones_cons rfl (ones_cons hv2.one (ones_cons hv4.one (ones_cons rfl ones_nil))))))) ?_; clear hS; rintro w hS
       replace hS : Sat w0 w [.blk _ [_, _, _, _, _], .blk _ [_, _, _, _, _], _, _, .blk _ [_, _, _, _, _]] := hS
       refine ⟨⟨fun h => absurd h (by decide), hS.pk [0, 1]⟩, ?_⟩
       refine zdd <| zgj ⟨g3, v1, v2, v3, v4, hv2, hv4, rfl, hS⟩
      ·
       refine zka (xal (cs := [_, _, _, _, _]) el_48 hS) ?_; rintro _ w ⟨g3, rfl, hS⟩
       replace hS : Sat w0 w [.blk _ [_, _, _, _, _], .blk _ [_, _, _, _, _], _, _, .blk _ [_, _, _, _, _]] := hS
       refine ⟨⟨fun _ => hS.pk [0, 1], hS.pk [0, 1]⟩, ?_⟩
       refine zda 11 (xap 3 (r := t.nf) (f := ints (cat 0 (fun _ => 0) t.F)) sl_22 el_3 hS (hT.F.below hS.below) (by exact cat_ints1 _ _ _)) ?_; rintro v4 w ⟨hS, hv4⟩
       replace hS : Sat w0 w [.blk _ [_, _, _, _, _], .blk _ [_, _, _, _, _], _, _, .blk _ [_, _, _, _, _]] := hS
       refine ⟨⟨fun _ => hS.pk [0, 1], hS.pk [0, 1]⟩, ?_⟩
       refine zdv 12 (fun _ => (xany (v := .agg #[.int .i64 t.vars, .int .i64 t.den, v2, v4, .slice none 0 0]) (hr := by obtain ⟨_, _, _, _, rfl, _⟩ := hv2; obtain ⟨_, _, _, _, rfl, _⟩ := hv4; kernel_rfl))) ?_
       refine zde 14 (xsw 4 st_48 hS (hd := (ones_cons rfl (ones_cons rfl (ones_cons hv2.one (ones_cons hv4.one (ones_cons rfl ones_nil))))))) ?_; clear hS; rintro w hS
       replace hS : Sat w0 w [.blk _ [_, _, _, _, _], .blk _ [_, _, _, _, _], _, _, .blk _ [_, _, _, _, _]] := hS
       refine ⟨⟨fun h => absurd h (by decide), hS.pk [0, 1]⟩, ?_⟩
       refine zdd <| zgj ⟨g3, v1, v2, v3, v4, hv2, hv4, rfl, hS⟩
     ·
      refine zka (xal (cs := [_, _, _, _, _]) el_48 hS) ?_; rintro _ w ⟨g3, rfl, hS⟩
      replace hS : Sat w0 w [.blk _ [_, _, _, _, _], .blk _ [_, _, _, _, _], _, .blk _ [_, _, _, _, _]] := hS
      refine ⟨⟨fun _ => hS.pk [0, 1], hS.pk [0, 1]⟩, ?_⟩
      refine zda 8 (xl0 (c := ints (fun _ => 0)) sl_22 hS) ?_; rintro v3 w ⟨hS, hv3⟩
      replace hS : Sat w0 w [.blk _ [_, _, _, _, _], .blk _ [_, _, _, _, _], _, .blk _ [_, _, _, _, _], _] := hS
      refine ⟨⟨fun _ => hS.pk [0, 1], hS.pk [0, 1]⟩, ?_⟩
      refine zda 11 (xap 4 (r := t.nf) (f := ints (cat 0 (fun _ => 0) t.F)) sl_22 el_3 hS (hT.F.below hS.below) (by exact cat_ints1 _ _ _)) ?_; rintro v4 w ⟨hS, hv4⟩
      replace hS : Sat w0 w [.blk _ [_, _, _, _, _], .blk _ [_, _, _, _, _], _, .blk _ [_, _, _, _, _], _] := hS
      refine ⟨⟨fun _ => hS.pk [0, 1], hS.pk [0, 1]⟩, ?_⟩
      refine zdv 12 (fun _ => (xany (v := .agg #[.int .i64 t.vars, .int .i64 t.den, v2, v4, .slice none 0 0]) (hr := by obtain ⟨_, _, _, _, rfl, _⟩ := hv2; obtain ⟨_, _, _, _, rfl, _⟩ := hv4; kernel_rfl))) ?_
      refine zde 14 (xsw 3 st_48 hS (hd := (ones_cons rfl (ones_cons rfl (ones_cons hv2.one (ones_cons hv4.one (ones_cons rfl ones_nil))))))) ?_; clear hS; rintro w hS
      replace hS : Sat w0 w [.blk _ [_, _, _, _, _], .blk _ [_, _, _, _, _], _, .blk _ [_, _, _, _, _], _] := hS
      refine ⟨⟨fun h => absurd h (by decide), hS.pk [0, 1]⟩, ?_⟩
      refine zdd <| zgj ⟨g3, v1, v2, v3, v4, hv2, hv4, rfl, hS.pk [0, 1, 2, 4, 3]⟩
    ·
     refine zka (xl0 (c := ints (fun _ => 0)) sl_22 hS) ?_; rintro v2 w ⟨hS, hv2⟩
     replace hS : Sat w0 w [.blk _ [_, _, _, _, _], .blk _ [_, _, _, _, _], _, _] := hS
     refine ⟨⟨fun _ => hS.pk [0, 1], hS.pk [0, 1]⟩, ?_⟩
     refine zdfk (r := [7, 13]) ((zdn1 ?_ (zdn1 ?_ zdn0)))
     ·
      refine zka (xap 2 (r := t.nb) (f := ints (cat 0 (fun _ => 0) t.B)) sl_22 el_3 hS (hT.B.below hS.below) (by exact cat_ints1 _ _ _)) ?_; rintro v3 w ⟨hS, hv3⟩
      replace hS : Sat w0 w [.blk _ [_, _, _, _, _], .blk _ [_, _, _, _, _], _, _] := hS
      refine ⟨⟨fun _ => hS.pk [0, 1], hS.pk [0, 1]⟩, ?_⟩
      refine zdfk (r := [11, 13]) ((zdn1 ?_ (zdn1 ?_ zdn0)))
      ·
       refine zka (xap 3 (r := t.nf) (f := ints (cat 0 (fun _ => 0) t.F)) sl_22 el_3 hS (hT.F.below hS.below) (by exact cat_ints1 _ _ _)) ?_; rintro v4 w ⟨hS, hv4⟩
       replace hS : Sat w0 w [.blk _ [_, _, _, _, _], .blk _ [_, _, _, _, _], _, _] := hS
       refine ⟨⟨fun _ => hS.pk [0, 1], hS.pk [0, 1]⟩, ?_⟩
       refine zdv 12 (fun _ => (xany (v := .agg #[.int .i64 t.vars, .int .i64 t.den, v3, v4, .slice none 0 0]) (hr := by obtain ⟨_, _, _, _, rfl, _⟩ := hv3; obtain ⟨_, _, _, _, rfl, _⟩ := hv4; kernel_rfl))) ?_
       refine zda 13 (xal (cs := [_, _, _, _, _]) el_48 hS) ?_; rintro _ w ⟨g3, rfl, hS⟩
       replace hS : Sat w0 w [.blk _ [_, _, _, _, _], .blk _ [_, _, _, _, _], _, _, .blk _ [_, _, _, _, _]] := hS
       refine ⟨⟨fun _ => hS.pk [0, 1], hS.pk [0, 1]⟩, ?_⟩
       refine zde 14 (xsw 4 st_48 hS (hd := (ones_cons rfl (ones_cons rfl (ones_cons hv3.one (ones_cons hv4.one (ones_cons rfl ones_nil))))))) ?_; clear hS; rintro w hS
       replace hS : Sat w0 w [.blk _ [_, _, _, _, _], .blk _ [_, _, _, _, _], _, _, .blk _ [_, _, _, _, _]] := hS
       refine ⟨⟨fun h => absurd h (by decide), hS.pk [0, 1]⟩, ?_⟩
       refine zdd <| zgj ⟨g3, v1, v3, v2, v4, hv3, hv4, rfl, hS⟩
      ·
       refine zka (xal (cs := [_, _, _, _, _]) el_48 hS) ?_; rintro _ w ⟨g3, rfl, hS⟩
       replace hS : Sat w0 w [.blk _ [_, _, _, _, _], .blk _ [_, _, _, _, _], _, _, .blk _ [_, _, _, _, _]] := hS
       refine ⟨⟨fun _ => hS.pk [0, 1], hS.pk [0, 1]⟩, ?_⟩
       refine zda 11 (xap 3 (r := t.nf) (f := ints (cat 0 (fun _ => 0) t.F)) sl_22 el_3 hS (hT.F.below hS.below) (by exact cat_ints1 _ _ _)) ?_; rintro v4 w ⟨hS, hv4⟩
       replace hS : Sat w0 w [.blk _ [_, _, _, _, _], .blk _ [_, _, _, _, _], _, _, .blk _ [_, _, _, _, _]] := hS
       refine ⟨⟨fun _ => hS.pk [0, 1], hS.pk [0, 1]⟩, ?_⟩
       refine zdv 12 (fun _ => (xany (v := .agg #[.int .i64 t.vars, .int .i64 t.den, v3, v4, .slice none 0 0]) (hr := by obtain ⟨_, _, _, _, rfl, _⟩ := hv3; obtain ⟨_, _, _, _, rfl, _⟩ := hv4; kernel_rfl))) ?_
       refine zde 14 (xsw 4 st_48 hS (hd := (ones_cons rfl (ones_cons rfl (ones_cons hv3.one (ones_cons hv4.one (ones_cons rfl ones_nil))))))) ?_; clear hS; rintro w hS
       replace hS : Sat w0 w [.blk _ [_, _, _, _, _], .blk _ [_, _, _, _, _], _, _, .blk _ [_, _, _, _, _]] := hS
       refine ⟨⟨fun h => absurd h (by decide), hS.pk [0, 1]⟩, ?_⟩
       refine zdd <| zgj ⟨g3, v1, v3, v2, v4, hv3, hv4, rfl, hS⟩
     ·
      refine zka (xal (cs := [_, _, _, _, _]) el_48 hS) ?_; rintro _ w ⟨g3, rfl, hS⟩
      replace hS : Sat w0 w [.blk _ [_, _, _, _, _], .blk _ [_, _, _, _, _], _, _, .blk _ [_, _, _, _, _]] := hS
      refine ⟨⟨fun _ => hS.pk [0, 1], hS.pk [0, 1]⟩, ?_⟩
      refine zda 7 (xap 2 (r := t.nb) (f := ints (cat 0 (fun _ => 0) t.B)) sl_22 el_3 hS (hT.B.below hS.below) (by exact cat_ints1 _ _ _)) ?_; rintro v3 w ⟨hS, hv3⟩
      replace hS : Sat w0 w [.blk _ [_, _, _, _, _], .blk _ [_, _, _, _, _], _, _, .blk _ [_, _, _, _, _]] := hS
      refine ⟨⟨fun _ => hS.pk [0, 1], hS.pk [0, 1]⟩, ?_⟩
      refine zda 11 (xap 3 (r := t.nf) (f := ints (cat 0 (fun _ => 0) t.F)) sl_22 el_3 hS (hT.F.below hS.below) (by exact cat_ints1 _ _ _)) ?_; rintro v4 w ⟨hS, hv4⟩
      replace hS : Sat w0 w [.blk _ [_, _, _, _, _], .blk _ [_, _, _, _, _], _, _, .blk _ [_, _, _, _, _]] := hS
      refine ⟨⟨fun _ => hS.pk [0, 1], hS.pk [0, 1]⟩, ?_⟩
      refine zdv 12 (fun _ => (xany (v := .agg #[.int .i64 t.vars, .int .i64 t.den, v3, v4, .slice none 0 0]) (hr := by obtain ⟨_, _, _, _, rfl, _⟩ := hv3; obtain ⟨_, _, _, _, rfl, _⟩ := hv4; kernel_rfl))) ?_
      refine zde 14 (xsw 4 st_48 hS (hd := (ones_cons rfl (ones_cons rfl (ones_cons hv3.one (ones_cons hv4.one (ones_cons rfl ones_nil))))))) ?_; clear hS; rintro w hS
      replace hS : Sat w0 w [.blk _ [_, _, _, _, _], .blk _ [_, _, _, _, _], _, _, .blk _ [_, _, _, _, _]] := hS
      refine ⟨⟨fun h => absurd h (by decide), hS.pk [0, 1]⟩, ?_⟩
      refine zdd <| zgj ⟨g3, v1, v3, v2, v4, hv3, hv4, rfl, hS⟩
    ·
     refine zka (xal (cs := [_, _, _, _, _]) el_48 hS) ?_; rintro _ w ⟨g3, rfl, hS⟩
     replace hS : Sat w0 w [.blk _ [_, _, _, _, _], .blk _ [_, _, _, _, _], _, .blk _ [_, _, _, _, _]] := hS
     refine ⟨⟨fun _ => hS.pk [0, 1], hS.pk [0, 1]⟩, ?_⟩
     refine zdfk (r := [7, 8]) ((zdn1 ?_ (zdn1 ?_ zdn0)))
     ·
      refine zka (xap 2 (r := t.nb) (f := ints (cat 0 (fun _ => 0) t.B)) sl_22 el_3 hS (hT.B.below hS.below) (by exact cat_ints1 _ _ _)) ?_; rintro v2 w ⟨hS, hv2⟩
      replace hS : Sat w0 w [.blk _ [_, _, _, _, _], .blk _ [_, _, _, _, _], _, .blk _ [_, _, _, _, _]] := hS
      refine ⟨⟨fun _ => hS.pk [0, 1], hS.pk [0, 1]⟩, ?_⟩
      refine zda 8 (xl0 (c := ints (fun _ => 0)) sl_22 hS) ?_; rintro v3 w ⟨hS, hv3⟩
      replace hS : Sat w0 w [.blk _ [_, _, _, _, _], .blk _ [_, _, _, _, _], _, .blk _ [_, _, _, _, _], _] := hS
      refine ⟨⟨fun _ => hS.pk [0, 1], hS.pk [0, 1]⟩, ?_⟩
      refine zda 11 (xap 4 (r := t.nf) (f := ints (cat 0 (fun _ => 0) t.F)) sl_22 el_3 hS (hT.F.below hS.below) (by exact cat_ints1 _ _ _)) ?_; rintro v4 w ⟨hS, hv4⟩
      replace hS : Sat w0 w [.blk _ [_, _, _, _, _], .blk _ [_, _, _, _, _], _, .blk _ [_, _, _, _, _], _] := hS
      refine ⟨⟨fun _ => hS.pk [0, 1], hS.pk [0, 1]⟩, ?_⟩
      refine zdv 12 (fun _ => (xany (v := .agg #[.int .i64 t.vars, .int .i64 t.den, v2, v4, .slice none 0 0]) (hr := by obtain ⟨_, _, _, _, rfl, _⟩ := hv2; obtain ⟨_, _, _, _, rfl, _⟩ := hv4; kernel_rfl))) ?_
      refine zde 14 (xsw 3 st_48 hS (hd := (ones_cons rfl (ones_cons rfl (ones_cons hv2.one (ones_cons hv4.one (ones_cons rfl ones_nil))))))) ?_; clear hS; rintro w hS
      replace hS : Sat w0 w [.blk _ [_, _, _, _, _], .blk _ [_, _, _, _, _], _, .blk _ [_, _, _, _, _], _] := hS
      refine ⟨⟨fun h => absurd h (by decide), hS.pk [0, 1]⟩, ?_⟩
      refine zdd <| zgj ⟨g3, v1, v2, v3, v4, hv2, hv4, rfl, hS.pk [0, 1, 2, 4, 3]⟩
     ·
      refine zka (xl0 (c := ints (fun _ => 0)) sl_22 hS) ?_; rintro v2 w ⟨hS, hv2⟩
      replace hS : Sat w0 w [.blk _ [_, _, _, _, _], .blk _ [_, _, _, _, _], _, .blk _ [_, _, _, _, _], _] := hS
      refine ⟨⟨fun _ => hS.pk [0, 1], hS.pk [0, 1]⟩, ?_⟩
      refine zda 7 (xap 2 (r := t.nb) (f := ints (cat 0 (fun _ => 0) t.B)) sl_22 el_3 hS (hT.B.below hS.below) (by exact cat_ints1 _ _ _)) ?_; rintro v3 w ⟨hS, hv3⟩
      replace hS : Sat w0 w [.blk _ [_, _, _, _, _], .blk _ [_, _, _, _, _], _, .blk _ [_, _, _, _, _], _] := hS
      refine ⟨⟨fun _ => hS.pk [0, 1], hS.pk [0, 1]⟩, ?_⟩
      refine zda 11 (xap 4 (r := t.nf) (f := ints (cat 0 (fun _ => 0) t.F)) sl_22 el_3 hS (hT.F.below hS.below) (by exact cat_ints1 _ _ _)) ?_; rintro v4 w ⟨hS, hv4⟩
      replace hS : Sat w0 w [.blk _ [_, _, _, _, _], .blk _ [_, _, _, _, _], _, .blk _ [_, _, _, _, _], _] := hS
      refine ⟨⟨fun _ => hS.pk [0, 1], hS.pk [0, 1]⟩, ?_⟩
      refine zdv 12 (fun _ => (xany (v := .agg #[.int .i64 t.vars, .int .i64 t.den, v3, v4, .slice none 0 0]) (hr := by obtain ⟨_, _, _, _, rfl, _⟩ := hv3; obtain ⟨_, _, _, _, rfl, _⟩ := hv4; kernel_rfl))) ?_
      refine zde 14 (xsw 3 st_48 hS (hd := (ones_cons rfl (ones_cons rfl (ones_cons hv3.one (ones_cons hv4.one (ones_cons rfl ones_nil))))))) ?_; clear hS; rintro w hS
      replace hS : Sat w0 w [.blk _ [_, _, _, _, _], .blk _ [_, _, _, _, _], _, .blk _ [_, _, _, _, _], _] := hS
      refine ⟨⟨fun h => absurd h (by decide), hS.pk [0, 1]⟩, ?_⟩
      refine zdd <| zgj ⟨g3, v1, v3, v2, v4, hv3, hv4, rfl, hS.pk [0, 1, 2, 4, 3]⟩
   ·
    refine zka (xl0 (c := ints (fun _ => 0)) sl_22 hS) ?_; rintro v1 w ⟨hS, hv1⟩
    replace hS : Sat w0 w [.blk _ [_, _, _, _, _], .blk _ [_, _, _, _, _], _] := hS
    refine ⟨⟨fun _ => hS.pk [0, 1], hS.pk [0, 1]⟩, ?_⟩
    refine zdfk (r := [4, 13]) ((zdn1 ?_ (zdn1 ?_ zdn0)))
    ·
     refine zka (xl0 (c := ints (fun _ => 0)) sl_22 hS) ?_; rintro v2 w ⟨hS, hv2⟩
     replace hS : Sat w0 w [.blk _ [_, _, _, _, _], .blk _ [_, _, _, _, _], _, _] := hS
     refine ⟨⟨fun _ => hS.pk [0, 1], hS.pk [0, 1]⟩, ?_⟩
     refine zdfk (r := [7, 13]) ((zdn1 ?_ (zdn1 ?_ zdn0)))
     ·
      refine zka (xap 3 (r := t.nb) (f := ints (cat 0 (fun _ => 0) t.B)) sl_22 el_3 hS (hT.B.below hS.below) (by exact cat_ints1 _ _ _)) ?_; rintro v3 w ⟨hS, hv3⟩
      replace hS : Sat w0 w [.blk _ [_, _, _, _, _], .blk _ [_, _, _, _, _], _, _] := hS
      refine ⟨⟨fun _ => hS.pk [0, 1], hS.pk [0, 1]⟩, ?_⟩
      refine zdfk (r := [11, 13]) ((zdn1 ?_ (zdn1 ?_ zdn0)))
      ·
       refine zka (xap 2 (r := t.nf) (f := ints (cat 0 (fun _ => 0) t.F)) sl_22 el_3 hS (hT.F.below hS.below) (by exact cat_ints1 _ _ _)) ?_; rintro v4 w ⟨hS, hv4⟩
       replace hS : Sat w0 w [.blk _ [_, _, _, _, _], .blk _ [_, _, _, _, _], _, _] := hS
       refine ⟨⟨fun _ => hS.pk [0, 1], hS.pk [0, 1]⟩, ?_⟩
       refine zdv 12 (fun _ => (xany (v := .agg #[.int .i64 t.vars, .int .i64 t.den, v3, v4, .slice none 0 0]) (hr := by obtain ⟨_, _, _, _, rfl, _⟩ := hv3; obtain ⟨_, _, _, _, rfl, _⟩ := hv4; kernel_rfl))) ?_
       refine zda 13 (xal (cs := [_, _, _, _, _]) el_48 hS) ?_; rintro _ w ⟨g3, rfl, hS⟩
       replace hS : Sat w0 w [.blk _ [_, _, _, _, _], .blk _ [_, _, _, _, _], _, _, .blk _ [_, _, _, _, _]] := hS
       refine ⟨⟨fun _ => hS.pk [0, 1], hS.pk [0, 1]⟩, ?_⟩
       refine zde 14 (xsw 4 st_48 hS (hd := (ones_cons rfl (ones_cons rfl (ones_cons hv3.one (ones_cons hv4.one (ones_cons rfl ones_nil))))))) ?_; clear hS; rintro w hS
       replace hS : Sat w0 w [.blk _ [_, _, _, _, _], .blk _ [_, _, _, _, _], _, _, .blk _ [_, _, _, _, _]] := hS
       refine ⟨⟨fun h => absurd h (by decide), hS.pk [0, 1]⟩, ?_⟩
       refine zdd <| zgj ⟨g3, v2, v3, v1, v4, hv3, hv4, rfl, hS.pk [0, 1, 3, 2, 4]⟩
      ·
       refine zka (xal (cs := [_, _, _, _, _]) el_48 hS) ?_; rintro _ w ⟨g3, rfl, hS⟩
       replace hS : Sat w0 w [.blk _ [_, _, _, _, _], .blk _ [_, _, _, _, _], _, _, .blk _ [_, _, _, _, _]] := hS
       refine ⟨⟨fun _ => hS.pk [0, 1], hS.pk [0, 1]⟩, ?_⟩
       refine zda 11 (xap 2 (r := t.nf) (f := ints (cat 0 (fun _ => 0) t.F)) sl_22 el_3 hS (hT.F.below hS.below) (by exact cat_ints1 _ _ _)) ?_; rintro v4 w ⟨hS, hv4⟩
       replace hS : Sat w0 w [.blk _ [_, _, _, _, _], .blk _ [_, _, _, _, _], _, _, .blk _ [_, _, _, _, _]] := hS
       refine ⟨⟨fun _ => hS.pk [0, 1], hS.pk [0, 1]⟩, ?_⟩
       refine zdv 12 (fun _ => (xany (v := .agg #[.int .i64 t.vars, .int .i64 t.den, v3, v4, .slice none 0 0]) (hr := by obtain ⟨_, _, _, _, rfl, _⟩ := hv3; obtain ⟨_, _, _, _, rfl, _⟩ := hv4; kernel_rfl))) ?_
       refine zde 14 (xsw 4 st_48 hS (hd := (ones_cons rfl (ones_cons rfl (ones_cons hv3.one (ones_cons hv4.one (ones_cons rfl ones_nil))))))) ?_; clear hS; rintro w hS
       replace hS : Sat w0 w [.blk _ [_, _, _, _, _], .blk _ [_, _, _, _, _], _, _, .blk _ [_, _, _, _, _]] := hS
       refine ⟨⟨fun h => absurd h (by decide), hS.pk [0, 1]⟩, ?_⟩
       refine zdd <| zgj ⟨g3, v2, v3, v1, v4, hv3, hv4, rfl, hS.pk [0, 1, 3, 2, 4]⟩
     ·
      refine zka (xal (cs := [_, _, _, _, _]) el_48 hS) ?_; rintro _ w ⟨g3, rfl, hS⟩
      replace hS : Sat w0 w [.blk _ [_, _, _, _, _], .blk _ [_, _, _, _, _], _, _, .blk _ [_, _, _, _, _]] := hS
      refine ⟨⟨fun _ => hS.pk [0, 1], hS.pk [0, 1]⟩, ?_⟩
      refine zda 7 (xap 3 (r := t.nb) (f := ints (cat 0 (fun _ => 0) t.B)) sl_22 el_3 hS (hT.B.below hS.below) (by exact cat_ints1 _ _ _)) ?_; rintro v3 w ⟨hS, hv3⟩
      replace hS : Sat w0 w [.blk _ [_, _, _, _, _], .blk _ [_, _, _, _, _], _, _, .blk _ [_, _, _, _, _]] := hS
      refine ⟨⟨fun _ => hS.pk [0, 1], hS.pk [0, 1]⟩, ?_⟩
      refine zda 11 (xap 2 (r := t.nf) (f := ints (cat 0 (fun _ => 0) t.F)) sl_22 el_3 hS (hT.F.below hS.below) (by exact cat_ints1 _ _ _)) ?_; rintro v4 w ⟨hS, hv4⟩
      replace hS : Sat w0 w [.blk _ [_, _, _, _, _], .blk _ [_, _, _, _, _], _, _, .blk _ [_, _, _, _, _]] := hS
      refine ⟨⟨fun _ => hS.pk [0, 1], hS.pk [0, 1]⟩, ?_⟩
      refine zdv 12 (fun _ => (xany (v := .agg #[.int .i64 t.vars, .int .i64 t.den, v3, v4, .slice none 0 0]) (hr := by obtain ⟨_, _, _, _, rfl, _⟩ := hv3; obtain ⟨_, _, _, _, rfl, _⟩ := hv4; kernel_rfl))) ?_
      refine zde 14 (xsw 4 st_48 hS (hd := (ones_cons rfl (ones_cons rfl (ones_cons hv3.one (ones_cons hv4.one (ones_cons rfl ones_nil))))))) ?_; clear hS; rintro w hS
      replace hS : Sat w0 w [.blk _ [_, _, _, _, _], .blk _ [_, _, _, _, _], _, _, .blk _ [_, _, _, _, _]] := hS
      refine ⟨⟨fun h => absurd h (by decide), hS.pk [0, 1]⟩, ?_⟩
      refine zdd <| zgj ⟨g3, v2, v3, v1, v4, hv3, hv4, rfl, hS.pk [0, 1, 3, 2, 4]⟩
    ·
     refine zka (xal (cs := [_, _, _, _, _]) el_48 hS) ?_; rintro _ w ⟨g3, rfl, hS⟩
     replace hS : Sat w0 w [.blk _ [_, _, _, _, _], .blk _ [_, _, _, _, _], _, .blk _ [_, _, _, _, _]] := hS
     refine ⟨⟨fun _ => hS.pk [0, 1], hS.pk [0, 1]⟩, ?_⟩
     refine zda 4 (xl0 (c := ints (fun _ => 0)) sl_22 hS) ?_; rintro v2 w ⟨hS, hv2⟩
     replace hS : Sat w0 w [.blk _ [_, _, _, _, _], .blk _ [_, _, _, _, _], _, .blk _ [_, _, _, _, _], _] := hS
     refine ⟨⟨fun _ => hS.pk [0, 1], hS.pk [0, 1]⟩, ?_⟩
     refine zda 7 (xap 4 (r := t.nb) (f := ints (cat 0 (fun _ => 0) t.B)) sl_22 el_3 hS (hT.B.below hS.below) (by exact cat_ints1 _ _ _)) ?_; rintro v3 w ⟨hS, hv3⟩
     replace hS : Sat w0 w [.blk _ [_, _, _, _, _], .blk _ [_, _, _, _, _], _, .blk _ [_, _, _, _, _], _] := hS
     refine ⟨⟨fun _ => hS.pk [0, 1], hS.pk [0, 1]⟩, ?_⟩
     refine zda 11 (xap 2 (r := t.nf) (f := ints (cat 0 (fun _ => 0) t.F)) sl_22 el_3 hS (hT.F.below hS.below) (by exact cat_ints1 _ _ _)) ?_; rintro v4 w ⟨hS, hv4⟩
     replace hS : Sat w0 w [.blk _ [_, _, _, _, _], .blk _ [_, _, _, _, _], _, .blk _ [_, _, _, _, _], _] := hS
     refine ⟨⟨fun _ => hS.pk [0, 1], hS.pk [0, 1]⟩, ?_⟩
     refine zdv 12 (fun _ => (xany (v := .agg #[.int .i64 t.vars, .int .i64 t.den, v3, v4, .slice none 0 0]) (hr := by obtain ⟨_, _, _, _, rfl, _⟩ := hv3; obtain ⟨_, _, _, _, rfl, _⟩ := hv4; kernel_rfl))) ?_
     refine zde 14 (xsw 3 st_48 hS (hd := (ones_cons rfl (ones_cons rfl (ones_cons hv3.one (ones_cons hv4.one (ones_cons rfl ones_nil))))))) ?_; clear hS; rintro w hS
     replace hS : Sat w0 w [.blk _ [_, _, _, _, _], .blk _ [_, _, _, _, _], _, .blk _ [_, _, _, _, _], _] := hS
     refine ⟨⟨fun h => absurd h (by decide), hS.pk [0, 1]⟩, ?_⟩
     refine zdd <| zgj ⟨g3, v2, v3, v1, v4, hv3, hv4, rfl, hS.pk [0, 1, 4, 2, 3]⟩
   ·
    refine zka (xal (cs := [_, _, _, _, _]) el_48 hS) ?_; rintro _ w ⟨g3, rfl, hS⟩
    replace hS : Sat w0 w [.blk _ [_, _, _, _, _], .blk _ [_, _, _, _, _], .blk _ [_, _, _, _, _]] := hS
    refine ⟨⟨fun _ => hS.pk [0, 1], hS.pk [0, 1]⟩, ?_⟩
    refine zdfk (r := [4, 8]) ((zdn1 ?_ (zdn1 ?_ zdn0)))
    ·
     refine zka (xl0 (c := ints (fun _ => 0)) sl_22 hS) ?_; rintro v1 w ⟨hS, hv1⟩
     replace hS : Sat w0 w [.blk _ [_, _, _, _, _], .blk _ [_, _, _, _, _], .blk _ [_, _, _, _, _], _] := hS
     refine ⟨⟨fun _ => hS.pk [0, 1], hS.pk [0, 1]⟩, ?_⟩
     refine zdfk (r := [7, 8]) ((zdn1 ?_ (zdn1 ?_ zdn0)))
     ·
      refine zka (xap 3 (r := t.nb) (f := ints (cat 0 (fun _ => 0) t.B)) sl_22 el_3 hS (hT.B.below hS.below) (by exact cat_ints1 _ _ _)) ?_; rintro v2 w ⟨hS, hv2⟩
      replace hS : Sat w0 w [.blk _ [_, _, _, _, _], .blk _ [_, _, _, _, _], .blk _ [_, _, _, _, _], _] := hS
      refine ⟨⟨fun _ => hS.pk [0, 1], hS.pk [0, 1]⟩, ?_⟩
      refine zda 8 (xl0 (c := ints (fun _ => 0)) sl_22 hS) ?_; rintro v3 w ⟨hS, hv3⟩
      replace hS : Sat w0 w [.blk _ [_, _, _, _, _], .blk _ [_, _, _, _, _], .blk _ [_, _, _, _, _], _, _] := hS
      refine ⟨⟨fun _ => hS.pk [0, 1], hS.pk [0, 1]⟩, ?_⟩
      refine zda 11 (xap 4 (r := t.nf) (f := ints (cat 0 (fun _ => 0) t.F)) sl_22 el_3 hS (hT.F.below hS.below) (by exact cat_ints1 _ _ _)) ?_; rintro v4 w ⟨hS, hv4⟩
      replace hS : Sat w0 w [.blk _ [_, _, _, _, _], .blk _ [_, _, _, _, _], .blk _ [_, _, _, _, _], _, _] := hS
      refine ⟨⟨fun _ => hS.pk [0, 1], hS.pk [0, 1]⟩, ?_⟩
      refine zdv 12 (fun _ => (xany (v := .agg #[.int .i64 t.vars, .int .i64 t.den, v2, v4, .slice none 0 0]) (hr := by obtain ⟨_, _, _, _, rfl, _⟩ := hv2; obtain ⟨_, _, _, _, rfl, _⟩ := hv4; kernel_rfl))) ?_
      refine zde 14 (xsw 2 st_48 hS (hd := (ones_cons rfl (ones_cons rfl (ones_cons hv2.one (ones_cons hv4.one (ones_cons rfl ones_nil))))))) ?_; clear hS; rintro w hS
      replace hS : Sat w0 w [.blk _ [_, _, _, _, _], .blk _ [_, _, _, _, _], .blk _ [_, _, _, _, _], _, _] := hS
      refine ⟨⟨fun h => absurd h (by decide), hS.pk [0, 1]⟩, ?_⟩
      refine zdd <| zgj ⟨g3, v1, v2, v3, v4, hv2, hv4, rfl, hS.pk [0, 1, 3, 4, 2]⟩
     ·
      refine zka (xl0 (c := ints (fun _ => 0)) sl_22 hS) ?_; rintro v2 w ⟨hS, hv2⟩
      replace hS : Sat w0 w [.blk _ [_, _, _, _, _], .blk _ [_, _, _, _, _], .blk _ [_, _, _, _, _], _, _] := hS
      refine ⟨⟨fun _ => hS.pk [0, 1], hS.pk [0, 1]⟩, ?_⟩
      refine zda 7 (xap 3 (r := t.nb) (f := ints (cat 0 (fun _ => 0) t.B)) sl_22 el_3 hS (hT.B.below hS.below) (by exact cat_ints1 _ _ _)) ?_; rintro v3 w ⟨hS, hv3⟩
      replace hS : Sat w0 w [.blk _ [_, _, _, _, _], .blk _ [_, _, _, _, _], .blk _ [_, _, _, _, _], _, _] := hS
      refine ⟨⟨fun _ => hS.pk [0, 1], hS.pk [0, 1]⟩, ?_⟩
      refine zda 11 (xap 4 (r := t.nf) (f := ints (cat 0 (fun _ => 0) t.F)) sl_22 el_3 hS (hT.F.below hS.below) (by exact cat_ints1 _ _ _)) ?_; rintro v4 w ⟨hS, hv4⟩
      replace hS : Sat w0 w [.blk _ [_, _, _, _, _], .blk _ [_, _, _, _, _], .blk _ [_, _, _, _, _], _, _] := hS
      refine ⟨⟨fun _ => hS.pk [0, 1], hS.pk [0, 1]⟩, ?_⟩
      refine zdv 12 (fun _ => (xany (v := .agg #[.int .i64 t.vars, .int .i64 t.den, v3, v4, .slice none 0 0]) (hr := by obtain ⟨_, _, _, _, rfl, _⟩ := hv3; obtain ⟨_, _, _, _, rfl, _⟩ := hv4; kernel_rfl))) ?_
      refine zde 14 (xsw 2 st_48 hS (hd := (ones_cons rfl (ones_cons rfl (ones_cons hv3.one (ones_cons hv4.one (ones_cons rfl ones_nil))))))) ?_; clear hS; rintro w hS
      replace hS : Sat w0 w [.blk _ [_, _, _, _, _], .blk _ [_, _, _, _, _], .blk _ [_, _, _, _, _], _, _] := hS
      refine ⟨⟨fun h => absurd h (by decide), hS.pk [0, 1]⟩, ?_⟩
      refine zdd <| zgj ⟨g3, v1, v3, v2, v4, hv3, hv4, rfl, hS.pk [0, 1, 3, 4, 2]⟩
    ·
     refine zka (xl0 (c := ints (fun _ => 0)) sl_22 hS) ?_; rintro v1 w ⟨hS, hv1⟩
     replace hS : Sat w0 w [.blk _ [_, _, _, _, _], .blk _ [_, _, _, _, _], .blk _ [_, _, _, _, _], _] := hS
     refine ⟨⟨fun _ => hS.pk [0, 1], hS.pk [0, 1]⟩, ?_⟩
     refine zda 4 (xl0 (c := ints (fun _ => 0)) sl_22 hS) ?_; rintro v2 w ⟨hS, hv2⟩
     replace hS : Sat w0 w [.blk _ [_, _, _, _, _], .blk _ [_, _, _, _, _], .blk _ [_, _, _, _, _], _, _] := hS
     refine ⟨⟨fun _ => hS.pk [0, 1], hS.pk [0, 1]⟩, ?_⟩
     refine zda 7 (xap 4 (r := t.nb) (f := ints (cat 0 (fun _ => 0) t.B)) sl_22 el_3 hS (hT.B.below hS.below) (by exact cat_ints1 _ _ _)) ?_; rintro v3 w ⟨hS, hv3⟩
     replace hS : Sat w0 w [.blk _ [_, _, _, _, _], .blk _ [_, _, _, _, _], .blk _ [_, _, _, _, _], _, _] := hS
     refine ⟨⟨fun _ => hS.pk [0, 1], hS.pk [0, 1]⟩, ?_⟩
     refine zda 11 (xap 3 (r := t.nf) (f := ints (cat 0 (fun _ => 0) t.F)) sl_22 el_3 hS (hT.F.below hS.below) (by exact cat_ints1 _ _ _)) ?_; rintro v4 w ⟨hS, hv4⟩
     replace hS : Sat w0 w [.blk _ [_, _, _, _, _], .blk _ [_, _, _, _, _], .blk _ [_, _, _, _, _], _, _] := hS
     refine ⟨⟨fun _ => hS.pk [0, 1], hS.pk [0, 1]⟩, ?_⟩
     refine zdv 12 (fun _ => (xany (v := .agg #[.int .i64 t.vars, .int .i64 t.den, v3, v4, .slice none 0 0]) (hr := by obtain ⟨_, _, _, _, rfl, _⟩ := hv3; obtain ⟨_, _, _, _, rfl, _⟩ := hv4; kernel_rfl))) ?_
     refine zde 14 (xsw 2 st_48 hS (hd := (ones_cons rfl (ones_cons rfl (ones_cons hv3.one (ones_cons hv4.one (ones_cons rfl ones_nil))))))) ?_; clear hS; rintro w hS
     replace hS : Sat w0 w [.blk _ [_, _, _, _, _], .blk _ [_, _, _, _, _], .blk _ [_, _, _, _, _], _, _] := hS
     refine ⟨⟨fun h => absurd h (by decide), hS.pk [0, 1]⟩, ?_⟩
     refine zdd <| zgj ⟨g3, v2, v3, v1, v4, hv3, hv4, rfl, hS.pk [0, 1, 4, 3, 2]⟩
  ·
   clear hS w; rintro M w ⟨g3, v1, v2, v3, v4, hv2, hv4, rfl, hS⟩
   refine ztn <| zsq <| zsq <| zrg ?_
   refine zlv xas ?_
   refine zln <| ztn <| zbk ?_
   replace hS := hS.addnil 1 22 (fun _ => Value.slice none 0 0)
   replace hS : Sat w0 w [.blk _ [_, _, _, _, _], .blk _ [_, _, _, _, _], _, _, .blk _ [_, _, _, _, _], _] := hS
   replace hS := hS.addrows 3 (fun _ => Value.slice none 0 0) t.ln t.C
   replace hS : Sat w0 w [.blk _ [_, _, _, _, _], .blk _ [_, _, _, _, _], _, _, .blk _ [_, _, _, _, _], _, _] := hS
   replace hS : Sat w0 w [.blk _ [_, _, _, _, _], .blk _ [_, _, _, _, _], _, _, .blk _ [_, _, _, _, _], _, _] := hS
   have hrs0 := fun k (k0 : 0 ≤ k) (k1 : k < 0) => hS.slhIn 6 rfl k0 k1
   refine zlp (fun mm M w => ∃ (nC : Int) (wv : Int → Value) (i : Int) (wC : Value), mm = ((t.nc - i).toNat) ∧ (0 ≤ i) ∧ (i ≤ t.nc) ∧ (nC = i) ∧ (Slh wC nC) ∧ M = [(1, .pointer (some ⟨g1, 0, none⟩)), (2, .pointer (some ⟨g2, 0, none⟩)), (3, .pointer (some ⟨g3, 0, none⟩)), (4, .int .i64 i)] ∧ Sat w0 w [.blk g1 [.int .i64 t.vars, .int .i64 t.den, vB, vF, vC], .blk g2 [.int .i64 0, .int .i64 0, .slice none 0 0, .slice none 0 0, .slice none 0 0], .own v2 1 3 t.nb (ints (cat 0 (fun _ => 0) t.B)), .own v4 1 3 t.nf (ints (cat 0 (fun _ => 0) t.F)), .blk g3 [.int .i64 t.vars, .int .i64 t.den, v2, v4, wC], .own wC 1 22 nC wv, .sem (Frame.rows 3 nC wv t.ln t.C)]) ⟨0, (fun _ => Value.slice none 0 0), 0, (.slice none 0 0), rfl, (by omega), (by omega), (by omega), ?_, rfl, hS⟩ ?_
   ·
    exact slh_nil
   ·
    clear hS w
    rintro mm M w ⟨nC, wv, i, wC, rfl, h0, h1, hnC, hwC, rfl, hS⟩
    have hrs1 := fun k (k0 : 0 ≤ k) (k1 : k < nC) => hS.slhIn 6 rfl k0 k1
    refine zsq <| zsq <| zrg ?_
    refine zlv xmv ?_
    refine zlv (xfb 4 fd_48_4) ?_
    refine zlv (xlb 0 pl_23 hS) ?_
    refine zlv (xln sl_23 hT.C.row.slh) ?_
    refine zlv xlss ?_
    refine zln <| ztn ?_
    refine zcif ?_ ?_ <;> intro hc
    ·
     refine zsk <| ztn <| zsq <| zbk ?_
     refine zdst [0, 1, 4] [0, 1] 12 mx_ hS ?_; clear hS; intro w hS
     refine zdv 0 (fun _ => (xfb 4 fd_48_4)) ?_
     have hli := hp.len (i := i) (by omega) (by omega)
     refine zdl 1 (fun w hS => (xlb 2 pl_23 hS)) ?_
     refine zdv 3 (fun _ => (xfb 4 fd_48_4)) ?_
     refine zdla 4 (fun w hS => (xlb 0 pl_23 hS)) ?_
     refine zdv 5 (fun _ => xmv) ?_
     refine zdv 6 (fun _ => (xix (kk := i) sl_23 hT.C.row.slh)) ?_
     refine zdla 7 (fun w hS => (xlr (u := (vv i)) pl_22 (hT.C.row.below hS.below))) ?_
     refine zda 2 (xl0 (c := ints (fun _ => 0)) sl_22 hS) ?_; rintro v5 w ⟨hS, hv5⟩
     replace hS : Sat w0 w [.blk _ [_, _, _, _, _], .blk _ [_, _, _, _, _], _, _, .blk _ [_, _, _, _, _], _, _, _] := hS
     refine ⟨⟨fun _ => hS.pk [0, 1, 4], hS.pk [0, 1]⟩, ?_⟩
     refine zda 8 (xap 7 (r := (t.ln i)) (f := ints (cat 0 (fun _ => 0) (t.C i))) sl_22 el_3 hS ((hT.C.p i (by omega) (by omega)).below hS.below) (by exact cat_ints1 _ _ _)) ?_; rintro v6 w ⟨hS, hv6⟩
     replace hS : Sat w0 w [.blk _ [_, _, _, _, _], .blk _ [_, _, _, _, _], _, _, .blk _ [_, _, _, _, _], _, _, _] := hS
     refine ⟨⟨fun _ => hS.pk [0, 1, 4], hS.pk [0, 1]⟩, ?_⟩
     refine zda 9 (xli (n := 1) (len := 1) (pv := [(0, v6)]) (cs := [v6]) (c := (fun _ => v6)) sl_23 el_22 hS (hf := by obtain ⟨_, _, _, _, rfl, _⟩ := hv6; kernel_rfl)) ?_; rintro v7 w ⟨hS, hv7⟩
     replace hS : Sat w0 w [.blk _ [_, _, _, _, _], .blk _ [_, _, _, _, _], _, _, .blk _ [_, _, _, _, _], _, _, _, _] := hS
     refine ⟨⟨fun _ => hS.pk [0, 1, 4], hS.pk [0, 1]⟩, ?_⟩
     refine zda 10 (xap 5 (r := nC + 1) sl_23 el_22 hS (hS.rowN 8 rfl) (cat_gsn _ _ _) (h1 := fun _ _ _ => hv6.one)) ?_; rintro v8 w ⟨hS, hv8⟩
     replace hS : Sat w0 w [.blk _ [_, _, _, _, _], .blk _ [_, _, _, _, _], _, _, .blk _ [_, _, _, _, _], _, _, _, _] := hS
     replace hS := Sat.merge (l1 := [.blk g1 [.int .i64 t.vars, .int .i64 t.den, vB, vF, vC], .blk g2 [.int .i64 0, .int .i64 0, .slice none 0 0, .slice none 0 0, .slice none 0 0], .own v2 1 3 t.nb (ints (cat 0 (fun _ => 0) t.B)), .own v4 1 3 t.nf (ints (cat 0 (fun _ => 0) t.F)), .blk g3 [.int .i64 t.vars, .int .i64 t.den, v2, v4, wC], .own v8 1 22 (nC + 1) (gsn wv nC v6)]) (l2 := []) (l3 := [.own v7 1 22 1 (fun _ => v6)]) hS (by omega)
     have hrs2 := fun k (k0 : 0 ≤ k) (k1 : k < nC + 1) => hS.slhIn 6 rfl k0 k1
     replace hS : Sat w0 w [.blk _ [_, _, _, _, _], .blk _ [_, _, _, _, _], _, _, .blk _ [_, _, _, _, _], _, _, _] := hS
     refine ⟨⟨fun _ => hS.pk [0, 1, 4], hS.pk [0, 1]⟩, ?_⟩
     refine zdv 11 (fun _ => (xfb 4 fd_48_4)) ?_
     refine zde 12 (xsb 4 pl_23 hS (hv := hv8.one)) ?_; clear hS; rintro w hS
     replace hS : Sat w0 w [.blk _ [_, _, _, _, _], .blk _ [_, _, _, _, _], _, _, .blk _ [_, _, _, _, _], _, _, _] := hS
     refine ⟨⟨fun h => absurd h (by decide), hS.pk [0, 1]⟩, ?_⟩
     refine zdd <| zbn <| ztn <| zrg ?_
     refine zlv xmv ?_
     refine zlv (xadd (r := i + 1)) ?_
     replace hS := hS.rerows (vv' := gsn wv nC v6) (ln' := t.ln) (f' := t.C) 6 rfl (fun k k0 k1 => by
       by_cases e : k < i
       · exact ⟨rfl, gsn_lt (by omega), fun j _ _ => by rw [gsn_lt (by omega)]⟩
       · have hki : k = i := by omega
         refine ⟨rfl, ?_, fun b b0 b1 => ?_⟩
         · rw [gsn_at (by omega), hki]; try omega
         · rw [gsn_at (by omega), hki]; unfold cat; rw [if_neg (by omega), Int.sub_zero])
     replace hS : Sat w0 w [.blk _ [_, _, _, _, _], .blk _ [_, _, _, _, _], _, _, .blk _ [_, _, _, _, _], _, _, _] := hS
     have hrs2x := fun k (k0 : 0 ≤ k) (k1 : k < nC + 1) => hS.slhIn 6 rfl k0 k1
     refine zlv xas ?_
     refine zln <| zlq ⟨nC + 1, gsn wv nC v6, i + 1, v8, rfl, (by omega), (by omega), (by omega), ?_, rfl, hS.pk [0, 1, 2, 3, 4, 5, 6]⟩
     ·
      exact hv8
    ·
     refine zxt <| ztx <| ztx <| zbh <| ztn <| zsq <| zrg ?_
     refine zlv (xls 4 st_48 hS) ?_
     refine zle (xsw 1 st_48 hS (hd := (ones_cons rfl (ones_cons rfl (ones_cons hv2.one (ones_cons hv4.one (ones_cons hwC.one ones_nil))))))) ?_; clear hS; rintro w hS
     replace hS : Sat w0 w [.blk _ [_, _, _, _, _], .blk _ [_, _, _, _, _], _, _, .blk _ [_, _, _, _, _], _, _] := hS
     refine zln <| ztn <| zrt <| zfc 1 st_48 hS ⟨_, rfl, ?_⟩
     obtain rfl : i = t.nc := by omega
     replace hS := hS.recont 2 rfl (d := ints t.B) (fun k k0 k1 => by unfold ints cat; rw [if_neg (by omega), Int.sub_zero])
     replace hS := hS.recont 3 rfl (d := ints t.F) (fun k k0 k1 => by unfold ints cat; rw [if_neg (by omega), Int.sub_zero])
     subst hnC
     exact ⟨_, _, _, _, rfl, hv2, hv4, hwC, hS.pk [2, 3, 5, 6]⟩

set_option maxRecDepth 20000 in
theorem c_rOptimize {vB vF vC : Value} {vv : Int → Value} {t : Tb} (w0 : World) (hT : TAt w0 vB vF vC vv t) :
    Calls Try.prog 29 [.agg #[.int .i64 t.vars, .int .i64 t.den, vB, vF, vC]].toArray w0 fun e w => ∃ v, e = .returned v ∧ ∃ vB vF vC vv t' e, v = .tuple #[.agg #[.int .i64 t'.vars, .int .i64 t'.den, vB, vF, vC], .int .i64 e] ∧ OptR t t' e ∧ Slh vB t'.nb ∧ Slh vF t'.nf ∧ Slh vC t'.nc ∧ Sat w0 w [.own vB 1 3 t'.nb (ints t'.B), .own vF 1 3 t'.nf (ints t'.F), .own vC 1 22 t'.nc vv, .sem (Frame.rows 3 t'.nc vv t'.ln t'.C)] := by
  refine zenG Try.func29 Try.ntmps29 fun w hS => ?_
  refine zsq <| zrg ?_
  refine zla (xbx (cs := [_, _, _, _, _]) hS) ?_; rintro _ w ⟨g1, rfl, hS⟩
  replace hS : Sat w0 w [.blk _ [_, _, _, _, _]] := hS
  refine zla (xal (cs := [_, _, _, _, _]) el_48 hS) ?_; rintro _ w ⟨g2, rfl, hS⟩
  replace hS : Sat w0 w [.blk _ [_, _, _, _, _], .blk _ [_, _, _, _, _]] := hS
  refine zlv xas ?_
  refine zln <| ztn <| zsq <| zrg ?_
  refine zlv (xls 0 st_48 hS) ?_
  refine zlc (xc0 cl_54) (c_rrun (t := t) w (hT.below hS.below)) ?_; rintro _ w ⟨xBu1, xFu1, xCu1, xvu1, uu1, zuu1, euu1, rfl, hrunu1, hzzu1, hxBu1, hxFu1, hxCu1, hS'⟩
  replace hS : Sat w0 w [.blk g1 [.int .i64 t.vars, .int .i64 t.den, vB, vF, vC], .blk g2 [.int .i64 0, .int .i64 0, .slice none 0 0, .slice none 0 0, .slice none 0 0], .sem (Frame.alt (uu1 = t ∧ xBu1 = vB ∧ xFu1 = vF ∧ xCu1 = vC ∧ xvu1 = vv) (Frame.bun [.own xBu1 1 3 uu1.nb (ints uu1.B), .own xFu1 1 3 uu1.nf (ints uu1.F), .own xCu1 1 22 uu1.nc xvu1, .sem (Frame.rows 3 uu1.nc xvu1 uu1.ln uu1.C)]))] := hS.comp hS'; clear hS'
  have hxru1 := fun k (k0 : 0 ≤ k) (k1 : k < uu1.nc) => ((tat_alt (hT.below hS.below) hS 2 rfl).C.p k k0 k1).slh
  refine zlv xmv ?_
  iterate 2 refine zlv xex ?_
  refine zla (xal (cs := [_, _, _, _, _]) el_48 hS) ?_; rintro _ w ⟨g3, rfl, hS⟩
  replace hS : Sat w0 w [.blk _ [_, _, _, _, _], .blk _ [_, _, _, _, _], _, .blk _ [_, _, _, _, _]] := hS
  refine zle (xsw 3 st_48 hS (hd := (ones_cons rfl (ones_cons rfl (ones_cons hxBu1.one (ones_cons hxFu1.one (ones_cons hxCu1.one ones_nil))))))) ?_; clear hS; rintro w hS
  replace hS : Sat w0 w [.blk _ [_, _, _, _, _], .blk _ [_, _, _, _, _], _, .blk _ [_, _, _, _, _]] := hS
  refine zlv xas ?_
  refine zln <| ztn <| zsq <| zsq <| zrg ?_
  refine zlv xmv ?_
  refine zlv xneq ?_
  refine zln <| ztn ?_
  refine zcif ?_ ?_ <;> intro hc
  ·
   refine zsq <| zrg ?_
   refine zlv (xany (v := .agg #[.int .i64 0, .int .i64 0, .slice none 0 0, .slice none 0 0, .slice none 0 0])) ?_
   refine zlv xmv ?_
   refine zle (xsw 1 st_48 hS) ?_; clear hS; rintro w hS
   replace hS : Sat w0 w [.blk _ [_, _, _, _, _], .blk _ [_, _, _, _, _], _, .blk _ [_, _, _, _, _]] := hS
   refine zlv xas ?_
   refine zln <| ztn <| zrt <| ztr <| zfct 1 st_48 hS ⟨_, rfl, ?_⟩
   exact ⟨_, _, _, fun _ => undef, Tb.zero, _, rfl, ⟨_, _, hrunu1, .inr ⟨by omega, rfl, rfl⟩⟩, slh_nil, slh_nil, slh_nil, ((((hS.sub (.cons _ (.cons _ (.cons _ (.cons _ .slnil))))).addnil 1 3 (ints Tb.zero.B)).addnil 1 3 (ints Tb.zero.F)).addnil 1 22 (fun _ => undef)).addrows 3 (fun _ => undef) Tb.zero.ln Tb.zero.C⟩
  ·
   refine zsk <| ztn <| zsq <| zrg ?_
   refine zlv (xls 3 st_48 hS) ?_
   have hzq := hzzu1 (.inl (by omega)); rw [hzq] at hrunu1
   obtain ⟨hp, _, _, _⟩ := hrunu1.fin (.inl (by omega))
   have b1 := hp.n1
   have b2 := hp.n2
   have b3 := hp.m2
   have b4 := hp.v
   have b5 := hp.d1
   have b6 := hp.d2
   have b7 := hp.c
   refine zlc (xc0 cl_55) (c_copy (t := uu1) w (tat_alt (hT.below hS.below) hS 2 rfl) hp) ?_; rintro _ w ⟨yBc1, yFc1, yCc1, yvc1, rfl, hyBc1, hyFc1, hyCc1, hS'⟩
   replace hS : Sat w0 w [.blk g1 [.int .i64 t.vars, .int .i64 t.den, vB, vF, vC], .blk g2 [.int .i64 0, .int .i64 0, .slice none 0 0, .slice none 0 0, .slice none 0 0], .sem (Frame.alt (uu1 = t ∧ xBu1 = vB ∧ xFu1 = vF ∧ xCu1 = vC ∧ xvu1 = vv) (Frame.bun [.own xBu1 1 3 uu1.nb (ints uu1.B), .own xFu1 1 3 uu1.nf (ints uu1.F), .own xCu1 1 22 uu1.nc xvu1, .sem (Frame.rows 3 uu1.nc xvu1 uu1.ln uu1.C)])), .blk g3 [.int .i64 uu1.vars, .int .i64 uu1.den, xBu1, xFu1, xCu1], .own yBc1 1 3 uu1.nb (ints uu1.B), .own yFc1 1 3 uu1.nf (ints uu1.F), .own yCc1 1 22 uu1.nc yvc1, .sem (Frame.rows 3 uu1.nc yvc1 uu1.ln uu1.C)] := hS.comp hS'; clear hS'
   have hyrc1 := fun k (k0 : 0 ≤ k) (k1 : k < uu1.nc) => hS.slhIn 7 rfl k0 k1
   refine zle (xsw 1 st_48 hS (hd := (ones_cons rfl (ones_cons rfl (ones_cons hyBc1.one (ones_cons hyFc1.one (ones_cons hyCc1.one ones_nil))))))) ?_; clear hS; rintro w hS
   replace hS : Sat w0 w [.blk _ [_, _, _, _, _], .blk _ [_, _, _, _, _], _, .blk _ [_, _, _, _, _], _, _, _, _] := hS
   refine zlv xas ?_
   refine zln <| ztn <| zrt <| zfct 1 st_48 hS ⟨_, rfl, ?_⟩
   have he0 : euu1 = 0 := by omega
   rw [he0] at hrunu1
   exact ⟨_, _, _, _, uu1, 0, rfl, ⟨_, _, hrunu1, .inl ⟨rfl, rfl, rfl⟩⟩, hyBc1, hyFc1, hyCc1, hS.pk [4, 5, 6, 7]⟩

theorem SameT.refl (t : Tb) : SameT t t := ⟨rfl, rfl, ⟨rfl, fun _ _ _ => rfl⟩, ⟨rfl, fun _ _ _ => rfl⟩, rfl, fun _ _ _ => ⟨rfl, fun _ _ _ => rfl⟩⟩

set_option maxRecDepth 20000 in
theorem law_step {vB vF vC : Value} {vv : Int → Value} {t : Tb} {row col : Int} (w0 : World) (hT : TAt w0 vB vF vC vv t) (hrow0 : -9223372036854775808 ≤ row ∧ row ≤ 9223372036854775807) (hcol0 : -9223372036854775808 ≤ col ∧ col ≤ 9223372036854775807) :
    Calls Try.prog 8 [.agg #[.int .i64 t.vars, .int .i64 t.den, vB, vF, vC], .agg #[.int .i64 row, .int .i64 col]].toArray w0 fun e w => ∃ v, e = .returned v ∧ v = .bool true ∧ Sat w0 w [] := by
  have hn := hT.F.slh.n0; have hn1 := hT.F.slh.n1; have hb := hT.B.slh.n0; have hb1 := hT.B.slh.n1; have hc0 := hT.C.row.slh.n0; have hc1 := hT.C.row.slh.n1
  refine zenG Try.func8 Try.ntmps8 fun w hS => ?_
  refine zsq <| zrg ?_
  refine zla (xbx (cs := [_, _, _, _, _]) hS) ?_; rintro _ w ⟨g1, rfl, hS⟩
  replace hS : Sat w0 w [.blk _ [_, _, _, _, _]] := hS
  refine zla (xbx (cs := [_, _]) hS) ?_; rintro _ w ⟨g2, rfl, hS⟩
  replace hS : Sat w0 w [.blk _ [_, _, _, _, _], .blk _ [_, _]] := hS
  refine zlv xas ?_
  refine zln <| ztn <| zsq <| zsq <| zrg ?_
  refine zlc (xc0 cl_12) (c_awake w) ?_; rintro _ w ⟨rfl, hS'⟩
  replace hS := hS.cmp hS'; clear hS'
  refine zlv xnt ?_
  refine zlv xmv ?_
  refine zlv (xls 0 st_48 hS) ?_
  refine zlc (xc0 cl_22) (c_little (t := t) w (hT.below hS.below)) ?_; rintro _ w ⟨rfl, hS'⟩
  replace hS := hS.cmp hS'; clear hS'
  refine zlv xnot ?_
  refine zlv xpf ?_
  refine zln <| ztn ?_
  refine zcif ?_ ?_ <;> intro hc
  ·
   refine zsq <| zrg ?_
   refine zlc (xc0 cl_12) (c_awake w) ?_; rintro _ w ⟨rfl, hS'⟩
   replace hS := hS.cmp hS'; clear hS'
   refine zlv xas ?_
   refine zln <| ztn <| zrt <| ztr <| zf1 ⟨_, rfl, ?_⟩
   exact ⟨rfl, hS.nl⟩
  ·
   refine zsk <| ztn <| zsq <| zrg ?_
   refine zlv (xls 0 st_48 hS) ?_
   refine zla (xal (cs := [_, _, _, _, _]) el_43 hS) ?_; rintro _ w ⟨g3, rfl, hS⟩
   replace hS : Sat w0 w [.blk _ [_, _, _, _, _], .blk _ [_, _], .blk _ [_, _, _, _, _]] := hS
   refine zle (xsw 2 st_43 hS (hd := (ones_cons rfl (ones_cons rfl (ones_cons hT.B.slh.one (ones_cons hT.F.slh.one (ones_cons hT.C.row.slh.one ones_nil))))))) ?_; clear hS; rintro w hS
   replace hS : Sat w0 w [.blk _ [_, _, _, _, _], .blk _ [_, _], .blk _ [_, _, _, _, _]] := hS
   refine zln <| ztn <| zsq <| zrg ?_
   refine zlv (xls 2 st_43 hS) ?_
   refine zlc (xc0 cl_25) (c_nextB (t := t) w (hT.below hS.below)) ?_; rintro _ w ⟨rn1, cn1, dn1, en1, rfl, hnn1, hS'⟩
   replace hS := hS.cmp hS'; clear hS'
   refine zlv xmv ?_
   iterate 4 refine zlv xex ?_
   iterate 4 refine zlv xas ?_
   refine zln <| ztn <| zsq <| zrg ?_
   refine zlv (xls 0 st_48 hS) ?_
   refine zlc (xc0 cl_26) (c_rnextB (t := t) w (hT.below hS.below)) ?_; rintro _ w ⟨rn2, cn2, dn2, en2, rfl, hnn2, hS'⟩
   replace hS := hS.cmp hS'; clear hS'
   refine zlv xmv ?_
   iterate 4 refine zlv xex ?_
   iterate 4 refine zlv xas ?_
   refine zln <| ztn <| zsq <| zrg ?_
   refine zlv (xls 2 st_43 hS) ?_
   refine zlv (xfb 0 fd_50_0) ?_
   refine zlv (xlb 1 pl_3 hS) ?_
   refine zlv (xfb 1 fd_50_1) ?_
   refine zlv (xlb 1 pl_3 hS) ?_
   refine zlc (xc0 cl_21) (c_pivot (t := t) (row := row) (col := col) w (hT.below hS.below) (by omega) (by omega)) ?_; rintro _ w ⟨vBk1, vFk1, vCk1, vvk1, tk1, ek1, rfl, hpvk1, hsBk1, hsFk1, hsCk1, hS'⟩
   replace hS : Sat w0 w [.blk g1 [.int .i64 t.vars, .int .i64 t.den, vB, vF, vC], .blk g2 [.int .i64 row, .int .i64 col], .blk g3 [.int .i64 t.vars, .int .i64 t.den, vB, vF, vC], .own vBk1 1 3 tk1.nb (ints tk1.B), .own vFk1 1 3 tk1.nf (ints tk1.F), .own vCk1 1 22 tk1.nc vvk1, .sem (Frame.rows 3 tk1.nc vvk1 tk1.ln tk1.C)] := hS.comp hS'; clear hS'
   have hrsk1 := fun k (k0 : 0 ≤ k) (k1 : k < tk1.nc) => hS.slhIn 6 rfl k0 k1
   refine zlv xmv ?_
   iterate 2 refine zlv xex ?_
   refine zla (xal (cs := [_, _, _, _, _]) el_43 hS) ?_; rintro _ w ⟨g4, rfl, hS⟩
   replace hS : Sat w0 w [.blk _ [_, _, _, _, _], .blk _ [_, _], .blk _ [_, _, _, _, _], _, _, _, _, .blk _ [_, _, _, _, _]] := hS
   refine zle (xsw 7 st_43 hS (hd := (ones_cons rfl (ones_cons rfl (ones_cons hsBk1.one (ones_cons hsFk1.one (ones_cons hsCk1.one ones_nil))))))) ?_; clear hS; rintro w hS
   replace hS : Sat w0 w [.blk _ [_, _, _, _, _], .blk _ [_, _], .blk _ [_, _, _, _, _], _, _, _, _, .blk _ [_, _, _, _, _]] := hS
   refine zlv xas ?_
   refine zln <| ztn <| zsq <| zrg ?_
   refine zlv (xls 0 st_48 hS) ?_
   refine zlv (xfb 0 fd_50_0) ?_
   refine zlv (xlb 1 pl_3 hS) ?_
   refine zlv (xfb 1 fd_50_1) ?_
   refine zlv (xlb 1 pl_3 hS) ?_
   refine zlc (xc0 cl_27) (c_rpivot (t := t) (row := row) (col := col) w (hT.below hS.below) (by omega) (by omega)) ?_; rintro _ w ⟨vBk2, vFk2, vCk2, vvk2, tk2, ek2, rfl, hpvk2, hsBk2, hsFk2, hsCk2, hS'⟩
   replace hS : Sat w0 w [.blk g1 [.int .i64 t.vars, .int .i64 t.den, vB, vF, vC], .blk g2 [.int .i64 row, .int .i64 col], .blk g3 [.int .i64 t.vars, .int .i64 t.den, vB, vF, vC], .own vBk1 1 3 tk1.nb (ints tk1.B), .own vFk1 1 3 tk1.nf (ints tk1.F), .own vCk1 1 22 tk1.nc vvk1, .sem (Frame.rows 3 tk1.nc vvk1 tk1.ln tk1.C), .blk g4 [.int .i64 tk1.vars, .int .i64 tk1.den, vBk1, vFk1, vCk1], .own vBk2 1 3 tk2.nb (ints tk2.B), .own vFk2 1 3 tk2.nf (ints tk2.F), .own vCk2 1 22 tk2.nc vvk2, .sem (Frame.rows 3 tk2.nc vvk2 tk2.ln tk2.C)] := hS.comp hS'; clear hS'
   have hrsk2 := fun k (k0 : 0 ≤ k) (k1 : k < tk2.nc) => hS.slhIn 11 rfl k0 k1
   refine zlv xmv ?_
   iterate 2 refine zlv xex ?_
   refine zla (xal (cs := [_, _, _, _, _]) el_48 hS) ?_; rintro _ w ⟨g5, rfl, hS⟩
   replace hS : Sat w0 w [.blk _ [_, _, _, _, _], .blk _ [_, _], .blk _ [_, _, _, _, _], _, _, _, _, .blk _ [_, _, _, _, _], _, _, _, _, .blk _ [_, _, _, _, _]] := hS
   refine zle (xsw 12 st_48 hS (hd := (ones_cons rfl (ones_cons rfl (ones_cons hsBk2.one (ones_cons hsFk2.one (ones_cons hsCk2.one ones_nil))))))) ?_; clear hS; rintro w hS
   replace hS : Sat w0 w [.blk _ [_, _, _, _, _], .blk _ [_, _], .blk _ [_, _, _, _, _], _, _, _, _, .blk _ [_, _, _, _, _], _, _, _, _, .blk _ [_, _, _, _, _]] := hS
   refine zlv xas ?_
   refine zln <| ztn <| zsq <| zrg ?_
   refine zlv (xls 2 st_43 hS) ?_
   refine zlc (xc0 cl_28) (c_Optimize (t := t) w (hT.below hS.below)) ?_; rintro _ w ⟨vBk3, vFk3, vCk3, vvk3, tk3, ek3, rfl, hopk3, hsBk3, hsFk3, hsCk3, hS'⟩
   replace hS : Sat w0 w [.blk g1 [.int .i64 t.vars, .int .i64 t.den, vB, vF, vC], .blk g2 [.int .i64 row, .int .i64 col], .blk g3 [.int .i64 t.vars, .int .i64 t.den, vB, vF, vC], .own vBk1 1 3 tk1.nb (ints tk1.B), .own vFk1 1 3 tk1.nf (ints tk1.F), .own vCk1 1 22 tk1.nc vvk1, .sem (Frame.rows 3 tk1.nc vvk1 tk1.ln tk1.C), .blk g4 [.int .i64 tk1.vars, .int .i64 tk1.den, vBk1, vFk1, vCk1], .own vBk2 1 3 tk2.nb (ints tk2.B), .own vFk2 1 3 tk2.nf (ints tk2.F), .own vCk2 1 22 tk2.nc vvk2, .sem (Frame.rows 3 tk2.nc vvk2 tk2.ln tk2.C), .blk g5 [.int .i64 tk2.vars, .int .i64 tk2.den, vBk2, vFk2, vCk2], .own vBk3 1 3 tk3.nb (ints tk3.B), .own vFk3 1 3 tk3.nf (ints tk3.F), .own vCk3 1 22 tk3.nc vvk3, .sem (Frame.rows 3 tk3.nc vvk3 tk3.ln tk3.C)] := hS.comp hS'; clear hS'
   have hrsk3 := fun k (k0 : 0 ≤ k) (k1 : k < tk3.nc) => hS.slhIn 16 rfl k0 k1
   refine zlv xmv ?_
   iterate 2 refine zlv xex ?_
   refine zla (xal (cs := [_, _, _, _, _]) el_43 hS) ?_; rintro _ w ⟨g6, rfl, hS⟩
   replace hS : Sat w0 w [.blk _ [_, _, _, _, _], .blk _ [_, _], .blk _ [_, _, _, _, _], _, _, _, _, .blk _ [_, _, _, _, _], _, _, _, _, .blk _ [_, _, _, _, _], _, _, _, _, .blk _ [_, _, _, _, _]] := hS
   refine zle (xsw 17 st_43 hS (hd := (ones_cons rfl (ones_cons rfl (ones_cons hsBk3.one (ones_cons hsFk3.one (ones_cons hsCk3.one ones_nil))))))) ?_; clear hS; rintro w hS
   replace hS : Sat w0 w [.blk _ [_, _, _, _, _], .blk _ [_, _], .blk _ [_, _, _, _, _], _, _, _, _, .blk _ [_, _, _, _, _], _, _, _, _, .blk _ [_, _, _, _, _], _, _, _, _, .blk _ [_, _, _, _, _]] := hS
   refine zlv xas ?_
   refine zln <| ztn <| zsq <| zrg ?_
   refine zlv (xls 0 st_48 hS) ?_
   refine zlc (xc0 cl_29) (c_rOptimize (t := t) w (hT.below hS.below)) ?_; rintro _ w ⟨vBk4, vFk4, vCk4, vvk4, tk4, ek4, rfl, hopk4, hsBk4, hsFk4, hsCk4, hS'⟩
   replace hS : Sat w0 w [.blk g1 [.int .i64 t.vars, .int .i64 t.den, vB, vF, vC], .blk g2 [.int .i64 row, .int .i64 col], .blk g3 [.int .i64 t.vars, .int .i64 t.den, vB, vF, vC], .own vBk1 1 3 tk1.nb (ints tk1.B), .own vFk1 1 3 tk1.nf (ints tk1.F), .own vCk1 1 22 tk1.nc vvk1, .sem (Frame.rows 3 tk1.nc vvk1 tk1.ln tk1.C), .blk g4 [.int .i64 tk1.vars, .int .i64 tk1.den, vBk1, vFk1, vCk1], .own vBk2 1 3 tk2.nb (ints tk2.B), .own vFk2 1 3 tk2.nf (ints tk2.F), .own vCk2 1 22 tk2.nc vvk2, .sem (Frame.rows 3 tk2.nc vvk2 tk2.ln tk2.C), .blk g5 [.int .i64 tk2.vars, .int .i64 tk2.den, vBk2, vFk2, vCk2], .own vBk3 1 3 tk3.nb (ints tk3.B), .own vFk3 1 3 tk3.nf (ints tk3.F), .own vCk3 1 22 tk3.nc vvk3, .sem (Frame.rows 3 tk3.nc vvk3 tk3.ln tk3.C), .blk g6 [.int .i64 tk3.vars, .int .i64 tk3.den, vBk3, vFk3, vCk3], .own vBk4 1 3 tk4.nb (ints tk4.B), .own vFk4 1 3 tk4.nf (ints tk4.F), .own vCk4 1 22 tk4.nc vvk4, .sem (Frame.rows 3 tk4.nc vvk4 tk4.ln tk4.C)] := hS.comp hS'; clear hS'
   have hrsk4 := fun k (k0 : 0 ≤ k) (k1 : k < tk4.nc) => hS.slhIn 21 rfl k0 k1
   refine zlv xmv ?_
   iterate 2 refine zlv xex ?_
   refine zla (xal (cs := [_, _, _, _, _]) el_48 hS) ?_; rintro _ w ⟨g7, rfl, hS⟩
   replace hS : Sat w0 w [.blk _ [_, _, _, _, _], .blk _ [_, _], .blk _ [_, _, _, _, _], _, _, _, _, .blk _ [_, _, _, _, _], _, _, _, _, .blk _ [_, _, _, _, _], _, _, _, _, .blk _ [_, _, _, _, _], _, _, _, _, .blk _ [_, _, _, _, _]] := hS
   refine zle (xsw 22 st_48 hS (hd := (ones_cons rfl (ones_cons rfl (ones_cons hsBk4.one (ones_cons hsFk4.one (ones_cons hsCk4.one ones_nil))))))) ?_; clear hS; rintro w hS
   replace hS : Sat w0 w [.blk _ [_, _, _, _, _], .blk _ [_, _], .blk _ [_, _, _, _, _], _, _, _, _, .blk _ [_, _, _, _, _], _, _, _, _, .blk _ [_, _, _, _, _], _, _, _, _, .blk _ [_, _, _, _, _], _, _, _, _, .blk _ [_, _, _, _, _]] := hS
   refine zlv xas ?_
   refine zln <| ztn <| zsq <| zrg ?_
   refine zlv xmv ?_
   obtain ⟨q1, q2, q3, q4⟩ := hnn1.same hnn2
   obtain ⟨q5, q6⟩ := hpvk1.same hpvk2
   obtain ⟨q7, q8⟩ := OptR.same hopk3 hopk4
   have hs1 : SameT tk1 tk2 := by rw [q5]; exact SameT.refl _
   have hs2 : SameT tk3 tk4 := by rw [q7]; exact SameT.refl _
   have hdd : dn1 = true ↔ dn2 = true := by rw [q3]
   refine zlv xmv ?_
   refine zlv xeql ?_
   refine zlv xmv ?_
   refine zlb 76 ?_ ?_ <;> intro hc
   ·
    iterate 2 refine zlv xmv ?_
    refine zlv xeql ?_
    refine zlv xpt ?_
    refine zlv xmv ?_
    refine zlb 81 ?_ ?_ <;> intro hc
    ·
     iterate 2 refine zlv xmv ?_
     refine zlvr rfl rfl rfl (ex_eqb rfl rfl rfl) ?_
     refine zlv xpt ?_
     refine zlv xmv ?_
     refine zlb 86 ?_ ?_ <;> intro hc
     ·
      iterate 2 refine zlv xmv ?_
      refine zlv xeql ?_
      refine zlv xpt ?_
      refine zlv xmv ?_
      refine zlb 91 ?_ ?_ <;> intro hc
      ·
       iterate 2 refine zlv xmv ?_
       refine zlv xeql ?_
       refine zlv xpt ?_
       refine zlv xmv ?_
       refine zlb 96 ?_ ?_ <;> intro hc
       ·
        refine zlv (xls 7 st_43 hS) ?_
        refine zlv (xls 12 st_48 hS) ?_
        refine zlc (xc0 cl_24) (c_same (t := tk1) (u := tk2) w (⟨(hS.rowN 3 rfl), (hS.rowN 4 rfl), (⟨(hS.rowN 5 rfl), fun k k0 k1 => hS.rowIn 6 rfl k0 k1, fun k k0 k1 => hS.roomIn 6 rfl k0 k1⟩ : MAt _ vCk1 tk1.nc vvk1 tk1.ln tk1.C)⟩ : TAt _ vBk1 vFk1 vCk1 vvk1 tk1) (⟨(hS.rowN 8 rfl), (hS.rowN 9 rfl), (⟨(hS.rowN 10 rfl), fun k k0 k1 => hS.rowIn 11 rfl k0 k1, fun k k0 k1 => hS.roomIn 11 rfl k0 k1⟩ : MAt _ vCk2 tk2.nc vvk2 tk2.ln tk2.C)⟩ : TAt _ vBk2 vFk2 vCk2 vvk2 tk2)) ?_; rintro _ w ⟨rfl, hS'⟩
        replace hS := hS.cmp hS'; clear hS'
        refine zlv xpt ?_
        refine zlv xmv ?_
        refine zlb 101 ?_ ?_ <;> intro hc
        ·
         iterate 2 refine zlv xmv ?_
         refine zlv xeql ?_
         refine zlv xpt ?_
         refine zlv xmv ?_
         refine zlb 106 ?_ ?_ <;> intro hc
         ·
          refine zlv (xls 17 st_43 hS) ?_
          refine zlv (xls 22 st_48 hS) ?_
          refine zlc (xc0 cl_24) (c_same (t := tk3) (u := tk4) w (⟨(hS.rowN 13 rfl), (hS.rowN 14 rfl), (⟨(hS.rowN 15 rfl), fun k k0 k1 => hS.rowIn 16 rfl k0 k1, fun k k0 k1 => hS.roomIn 16 rfl k0 k1⟩ : MAt _ vCk3 tk3.nc vvk3 tk3.ln tk3.C)⟩ : TAt _ vBk3 vFk3 vCk3 vvk3 tk3) (⟨(hS.rowN 18 rfl), (hS.rowN 19 rfl), (⟨(hS.rowN 20 rfl), fun k k0 k1 => hS.rowIn 21 rfl k0 k1, fun k k0 k1 => hS.roomIn 21 rfl k0 k1⟩ : MAt _ vCk4 tk4.nc vvk4 tk4.ln tk4.C)⟩ : TAt _ vBk4 vFk4 vCk4 vvk4 tk4)) ?_; rintro _ w ⟨rfl, hS'⟩
          replace hS := hS.cmp hS'; clear hS'
          refine zlv xpt ?_
          refine zlv xas ?_
          refine zln <| ztn <| zrt <| zf1 ⟨_, rfl, ?_⟩
          exact ⟨(true_B (by first | exact hs2 | exact hs1 | exact hdd | omega)).symm, hS.nl⟩
         ·
          iterate 3 refine zlo ?_
          refine zlv xpf ?_
          refine zlv xas ?_
          refine zln <| ztn <| zrt <| zf1 ⟨_, rfl, ?_⟩
          exfalso
          first | omega | exact absurd hs1 ‹_› | exact absurd hs2 ‹_› | exact absurd hdd ‹_›
        ·
         iterate 3 refine zlo ?_
         refine zlv xpf ?_
         refine zlv xmv ?_
         iterate 3 refine zlo ?_
         refine zlv xpf ?_
         refine zlv xas ?_
         refine zln <| ztn <| zrt <| zf1 ⟨_, rfl, ?_⟩
         exfalso
         first | omega | exact absurd hs1 ‹_› | exact absurd hs2 ‹_› | exact absurd hdd ‹_›
       ·
        iterate 3 refine zlo ?_
        refine zlv xpf ?_
        refine zlv xmv ?_
        iterate 3 refine zlo ?_
        refine zlv xpf ?_
        refine zlv xmv ?_
        iterate 3 refine zlo ?_
        refine zlv xpf ?_
        refine zlv xas ?_
        refine zln <| ztn <| zrt <| zf1 ⟨_, rfl, ?_⟩
        exfalso
        first | omega | exact absurd hs1 ‹_› | exact absurd hs2 ‹_› | exact absurd hdd ‹_›
      ·
       iterate 3 refine zlo ?_
       refine zlv xpf ?_
       refine zlv xmv ?_
       iterate 3 refine zlo ?_
       refine zlv xpf ?_
       refine zlv xmv ?_
       iterate 3 refine zlo ?_
       refine zlv xpf ?_
       refine zlv xmv ?_
       iterate 3 refine zlo ?_
       refine zlv xpf ?_
       refine zlv xas ?_
       refine zln <| ztn <| zrt <| zf1 ⟨_, rfl, ?_⟩
       exfalso
       first | omega | exact absurd hs1 ‹_› | exact absurd hs2 ‹_› | exact absurd hdd ‹_›
     ·
      iterate 3 refine zlo ?_
      refine zlv xpf ?_
      refine zlv xmv ?_
      iterate 3 refine zlo ?_
      refine zlv xpf ?_
      refine zlv xmv ?_
      iterate 3 refine zlo ?_
      refine zlv xpf ?_
      refine zlv xmv ?_
      iterate 3 refine zlo ?_
      refine zlv xpf ?_
      refine zlv xmv ?_
      iterate 3 refine zlo ?_
      refine zlv xpf ?_
      refine zlv xas ?_
      refine zln <| ztn <| zrt <| zf1 ⟨_, rfl, ?_⟩
      exfalso
      first | omega | exact absurd hs1 ‹_› | exact absurd hs2 ‹_› | exact absurd hdd ‹_›
    ·
     iterate 3 refine zlo ?_
     refine zlv xpf ?_
     refine zlv xmv ?_
     iterate 3 refine zlo ?_
     refine zlv xpf ?_
     refine zlv xmv ?_
     iterate 3 refine zlo ?_
     refine zlv xpf ?_
     refine zlv xmv ?_
     iterate 3 refine zlo ?_
     refine zlv xpf ?_
     refine zlv xmv ?_
     iterate 3 refine zlo ?_
     refine zlv xpf ?_
     refine zlv xmv ?_
     iterate 3 refine zlo ?_
     refine zlv xpf ?_
     refine zlv xas ?_
     refine zln <| ztn <| zrt <| zf1 ⟨_, rfl, ?_⟩
     exfalso
     first | omega | exact absurd hs1 ‹_› | exact absurd hs2 ‹_› | exact absurd hdd ‹_›
   ·
    iterate 3 refine zlo ?_
    refine zlv xpf ?_
    refine zlv xmv ?_
    iterate 3 refine zlo ?_
    refine zlv xpf ?_
    refine zlv xmv ?_
    iterate 3 refine zlo ?_
    refine zlv xpf ?_
    refine zlv xmv ?_
    iterate 3 refine zlo ?_
    refine zlv xpf ?_
    refine zlv xmv ?_
    iterate 3 refine zlo ?_
    refine zlv xpf ?_
    refine zlv xmv ?_
    iterate 3 refine zlo ?_
    refine zlv xpf ?_
    refine zlv xmv ?_
    iterate 3 refine zlo ?_
    refine zlv xpf ?_
    refine zlv xas ?_
    refine zln <| ztn <| zrt <| zf1 ⟨_, rfl, ?_⟩
    exfalso
    first | omega | exact absurd hs1 ‹_› | exact absurd hs2 ‹_› | exact absurd hdd ‹_›

end Go.Proofs.Ytakgjpmhbfieeaa
