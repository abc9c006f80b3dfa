/- The walk of Start, of the reference. -/
import Derived.Test.YtelfplepnodbgaaGv
import Derived.Test.YtelfplepnodbgaaW26
namespace Go.Proofs.Ytelfplepnodbgaa
open Go Go.RowKit Go.Proofs.Gw
set_option linter.unusedVariables false

theorem cl_110 : calledT Try.prog 110 = true := by kernel_rfl
theorem cl_124 : calledT Try.prog 124 = true := by kernel_rfl
theorem cl_125 : calledT Try.prog 125 = true := by kernel_rfl
theorem cl_25 : calledT Try.prog 25 = true := by kernel_rfl
theorem cl_66 : calledT Try.prog 66 = true := by kernel_rfl
theorem st_44 : structT Try.prog 44 = some 3 := by kernel_rfl
theorem c_rnextB {vB vF vC : Value} {vv : Int → Value} {t : Tb} (w0 : World) (hT : TAt w0 vB vF vC vv t) : Calls Try.prog 124 [.agg #[.int .i64 t.vars, .int .i64 t.den, vB, vF, vC]].toArray w0 fun e w => ∃ v, e = .returned v ∧ ∃ r c d e, v = .tuple #[.int .i64 r, .int .i64 c, B (d = true), .int .i64 e] ∧ NextR t r c d e ∧ Sat w0 w [] :=
  (c_rnext w0 hT).mono fun e w h => by
    obtain ⟨v, he, r, c, d, e', hv, hn, hS⟩ := h
    exact ⟨v, he, r, c, d, e', by rw [hv, bool_B], hn, hS⟩

set_option maxRecDepth 20000 in
theorem c_rrun {vB vF vC : Value} {vv : Int → Value} {t : Tb} (w0 : World) (hT : TAt w0 vB vF vC vv t) :
    Calls Try.prog 110 [.agg #[.int .i64 t.vars, .int .i64 t.den, vB, vF, vC]].toArray w0 fun e w => ∃ v, e = .returned v ∧ ∃ xB xF xC xv u z e, v = .tuple #[.agg #[.int .i64 u.vars, .int .i64 u.den, xB, xF, xC], .int .i64 e] ∧ Run 1000 t z e ∧ (e = 0 ∨ e = 19 → z = u) ∧ Slh xB u.nb ∧ Slh xF u.nf ∧ Slh xC u.nc ∧ Sat w0 w [.sem (Frame.alt (u = t ∧ xB = vB ∧ xF = vF ∧ xC = vC ∧ xv = vv) (Frame.bun [.own xB 1 3 u.nb (ints u.B), .own xF 1 3 u.nf (ints u.F), .own xC 1 22 u.nc xv, .sem (Frame.rows 3 u.nc xv u.ln u.C)]))] := by
  refine zenG Try.func110 Try.ntmps110 fun w hS => ?_
  refine zsr ?_
  refine zla (xbx (cs := [_, _, _, _, _]) hS) ?_; rintro _ w ⟨g1, rfl, hS⟩
  replace hS := hS.n1
  refine zla (xal (cs := [_, _, _, _, _]) el_25 hS) ?_; rintro _ w ⟨g2, rfl, hS⟩
  replace hS := hS.n2
  refine zlv xas ?_
  refine zlz ?_
  refine zlv xas ?_
  refine zlt <| zbk ?_
  replace hS := hS.altL (Frame.bun [.own vB 1 3 t.nb (ints t.B), .own vF 1 3 t.nf (ints t.F), .own vC 1 22 t.nc vv, .sem (Frame.rows 3 t.nc vv t.ln t.C)]) (p := t = t ∧ vB = vB ∧ vF = vF ∧ vC = vC ∧ vv = vv) ⟨rfl, rfl, rfl, rfl, rfl⟩
  replace hS := hS.n3
  refine zlp (fun mm M w => ∃ (u : Tb) (xB : Value) (xF : Value) (xC : Value) (xv : Int → Value) (n : Int), mm = (((1001 : Int) - n).toNat) ∧ (0 ≤ n) ∧ (n ≤ 1000) ∧ (Slh xB u.nb) ∧ (Slh xF u.nf) ∧ (Slh xC u.nc) ∧ (∀ z e, Run (1000 - n).toNat u z e → Run 1000 t z e) ∧ M = [(1, .pointer (some ⟨g1, 0, none⟩)), (2, .pointer (some ⟨g2, 0, none⟩)), (4, .int .i64 n)] ∧ Sat w0 w [.blk g1 [.int .i64 u.vars, .int .i64 u.den, xB, xF, xC], .blk g2 [.int .i64 0, .int .i64 0, .slice none 0 0, .slice none 0 0, .slice none 0 0], .sem (Frame.alt (u = t ∧ xB = vB ∧ xF = vF ∧ xC = vC ∧ xv = vv) (Frame.bun [.own xB 1 3 u.nb (ints u.B), .own xF 1 3 u.nf (ints u.F), .own xC 1 22 u.nc xv, .sem (Frame.rows 3 u.nc xv u.ln u.C)]))]) ⟨t, vB, vF, vC, vv, 0, rfl, (by omega), (by omega), ?_, ?_, ?_, ?_, rfl, hS.sub (List.Sublist.refl _)⟩ ?_
  ·
   exact hT.B.slh
  ·
   exact hT.F.slh
  ·
   exact hT.C.row.slh
  ·
   exact fun z e h => h
  clear hS w
  rintro mm M w ⟨u, xB, xF, xC, xv, n, rfl, n0, n1, hxB, hxF, hxC, hrun, rfl, hS⟩
  have htu := tat_alt (hT.below hS.below) hS 2 rfl
  have hub := htu.B.slh.n0; have hub1 := htu.B.slh.n1; have huf := htu.F.slh.n0; have huf1 := htu.F.slh.n1
  refine zsq <| zbk <| zsr ?_
  refine zlv (xls 0 st_25 hS) ?_
  refine zlc (xc0 cl_124) (c_rnextB (t := u) w (tat_alt (hT.below hS.below) hS 2 rfl)) ?_; rintro _ w ⟨rn1, cn1, dn1, en1, rfl, hnn1, hS'⟩
  replace hS := hS.cmp hS'; clear hS'
  have hrc := hnn1.rng
  refine zs6 ?_
  refine zs3 ?_
  refine zlt <| zsq <| zbk <| zsr ?_
  refine zs3 ?_
  refine zlb 22 ?_ ?_ <;> intro hc
  ·
   refine zlo ?_
   refine zs2 ?_
   refine zlt <| zct <| zsr ?_
   refine zlv (xls 0 st_25 hS) ?_
   refine zlv xmv ?_
   refine zle (xsw 1 st_25 hS (hd := (ones_cons rfl (ones_cons rfl (ones_cons hxB.one (ones_cons hxF.one (ones_cons hxC.one ones_nil))))))) ?_; clear hS; rintro w hS
   replace hS := hS.n3
   refine zlv xas ?_
   refine zlt <| zrt <| zbr <| ztr <| zbr <| ztr <| ztr <| zbr <| zfct 1 st_25 hS ⟨_, rfl, ?_⟩
   exact ⟨xB, xF, xC, xv, u, u, _, rfl, hrun _ _ (.stop hnn1 (by first | exact .inl hc | exact .inr (by omega) | exact .inl ‹_›)), fun _ => rfl, hxB, hxF, hxC, hS.pk [2]⟩
  refine zs3 ?_
  refine zlt ?_
  refine zcif ?_ ?_ <;> intro hc
  ·
   refine zsr ?_
   refine zlv (xls 0 st_25 hS) ?_
   refine zlv xmv ?_
   refine zle (xsw 1 st_25 hS (hd := (ones_cons rfl (ones_cons rfl (ones_cons hxB.one (ones_cons hxF.one (ones_cons hxC.one ones_nil))))))) ?_; clear hS; rintro w hS
   replace hS := hS.n3
   refine zlv xas ?_
   refine zlt <| zrt <| zbr <| ztr <| zbr <| ztr <| ztr <| zbr <| zfct 1 st_25 hS ⟨_, rfl, ?_⟩
   exact ⟨xB, xF, xC, xv, u, u, _, rfl, hrun _ _ (.stop hnn1 (by first | exact .inl hc | exact .inr (by omega) | exact .inl ‹_›)), fun _ => rfl, hxB, hxF, hxC, hS.pk [2]⟩
  refine zsr ?_
  refine zlv xmv ?_
  have hn0 : NextR u rn1 cn1 false 0 := by have h1 : dn1 = false := (by simpa using ‹¬ (dn1 = true)›); have h2 : en1 = 0 := (by omega); have h3 := hnn1; rw [h1, h2] at h3; exact h3
  have hpu := (hn0.prp (by omega)).1; have hq1 := hpu.n2; have hq2 := hpu.m2
  refine zs2 ?_
  refine zlt ?_
  refine zcif ?_ ?_ <;> intro hc
  ·
   refine zsr ?_
   refine zlv (xany (v := .agg #[.int .i64 0, .int .i64 0, .slice none 0 0, .slice none 0 0, .slice none 0 0])) ?_
   refine zle (xsw 1 st_25 hS) ?_; clear hS; rintro w hS
   replace hS := hS.n3
   refine zlv xas ?_
   refine zlt <| zrt <| zbr <| ztr <| zbr <| ztr <| ztr <| zbr <| zfct 1 st_25 hS ⟨_, rfl, ?_⟩
   replace hS := ((((hS.sub (.cons _ (.cons _ (.cons _ .slnil)))).addnil 1 3 (ints Tb.zero.B)).addnil 1 3 (ints Tb.zero.F)).addnil 1 22 (fun _ => undef)).addrows 3 (fun _ => undef) Tb.zero.ln Tb.zero.C
   exact ⟨_, _, _, fun _ => undef, Tb.zero, _, _, rfl, hrun _ _ (by rw [show (1000 - n).toNat = 0 by omega]; exact .lim hn0), fun h => by omega, slh_nil, slh_nil, slh_nil, Sat.altR (Tb.zero = t ∧ (Value.slice none 0 0) = vB ∧ (Value.slice none 0 0) = vF ∧ (Value.slice none 0 0) = vC ∧ (fun _ => undef) = vv) (l1 := []) (l2 := []) (Sat.bundle (l1 := []) hS)⟩
  refine zsk <| zbn <| ztn <| zsr ?_
  refine zlv (xls 0 st_25 hS) ?_
  refine zs2 ?_
  refine zlc (xc0 cl_125) (c_rpivot (t := u) (row := rn1) (col := cn1) w (tat_alt (hT.below hS.below) hS 2 rfl) (by omega) (by omega)) ?_; rintro _ w ⟨vBk1, vFk1, vCk1, vvk1, tk1, ek1, rfl, hpvk1, hsBk1, hsFk1, hsCk1, hS'⟩
  replace hS : Sat w0 w [.blk g1 [.int .i64 u.vars, .int .i64 u.den, xB, xF, xC], .blk g2 [.int .i64 0, .int .i64 0, .slice none 0 0, .slice none 0 0, .slice none 0 0], .sem (Frame.alt (u = t ∧ xB = vB ∧ xF = vF ∧ xC = vC ∧ xv = vv) (Frame.bun [.own xB 1 3 u.nb (ints u.B), .own xF 1 3 u.nf (ints u.F), .own xC 1 22 u.nc xv, .sem (Frame.rows 3 u.nc xv u.ln u.C)])), .own vBk1 1 3 tk1.nb (ints tk1.B), .own vFk1 1 3 tk1.nf (ints tk1.F), .own vCk1 1 22 tk1.nc vvk1, .sem (Frame.rows 3 tk1.nc vvk1 tk1.ln tk1.C)] := hS.comp hS'; clear hS'
  have hrsk1 := fun k (k0 : 0 ≤ k) (k1 : k < tk1.nc) => hS.slhIn 6 rfl k0 k1
  refine zs3 ?_
  refine zla (xal (cs := [_, _, _, _, _]) el_25 hS) ?_; rintro _ w ⟨g3, rfl, hS⟩
  replace hS := hS.n8
  refine zle (xsw 7 st_25 hS (hd := (ones_cons rfl (ones_cons rfl (ones_cons hsBk1.one (ones_cons hsFk1.one (ones_cons hsCk1.one ones_nil))))))) ?_; clear hS; rintro w hS
  replace hS := hS.n8
  refine zlv xas ?_
  refine zlt <| zsq <| zsr ?_
  refine zs2 ?_
  refine zlt ?_
  refine zcif ?_ ?_ <;> intro hc
  ·
   refine zsr ?_
   refine zlv (xany (v := .agg #[.int .i64 0, .int .i64 0, .slice none 0 0, .slice none 0 0, .slice none 0 0])) ?_
   refine zlv xmv ?_
   refine zle (xsw 1 st_25 hS) ?_; clear hS; rintro w hS
   replace hS := hS.n8
   refine zlv xas ?_
   refine zlt <| zrt <| ztr <| zbr <| ztr <| ztr <| zbr <| zfct 1 st_25 hS ⟨_, rfl, ?_⟩
   replace hS := ((((hS.sub (.cons _ (.cons _ (.cons _ (.cons _ (.cons _ (.cons _ (.cons _ (.cons _ .slnil))))))))).addnil 1 3 (ints Tb.zero.B)).addnil 1 3 (ints Tb.zero.F)).addnil 1 22 (fun _ => undef)).addrows 3 (fun _ => undef) Tb.zero.ln Tb.zero.C
   exact ⟨_, _, _, fun _ => undef, Tb.zero, _, _, rfl, hrun _ _ (by rw [show (1000 - n).toNat = (1000 - (n + 1)).toNat + 1 by omega]; exact .bad hn0 hpvk1 (by omega)), fun h => by rcases hpvk1 with ⟨_, _, h1⟩ | ⟨_, _, _, h1⟩ | ⟨_, _, _, _, h1⟩ | ⟨_, _, _, _, h1⟩ <;> omega, slh_nil, slh_nil, slh_nil, Sat.altR (Tb.zero = t ∧ (Value.slice none 0 0) = vB ∧ (Value.slice none 0 0) = vF ∧ (Value.slice none 0 0) = vC ∧ (fun _ => undef) = vv) (l1 := []) (l2 := []) (Sat.bundle (l1 := []) hS)⟩
  refine zsk <| ztn <| zrg ?_
  refine zlv (xls 7 st_25 hS) ?_
  refine zle (xsw 0 st_25 hS (hd := (ones_cons rfl (ones_cons rfl (ones_cons hsBk1.one (ones_cons hsFk1.one (ones_cons hsCk1.one ones_nil))))))) ?_; clear hS; rintro w hS
  replace hS := hS.n8
  refine zln <| zbn <| ztn <| zrg ?_
  refine zlv xmv ?_
  replace hS := hS.sub (.cons_cons _ (.cons_cons _ (.cons _ (.cons_cons _ (.cons_cons _ (.cons_cons _ (.cons_cons _ (.cons _ .slnil))))))))
  replace hS := hS.n6
  replace hS := Sat.altR (tk1 = t ∧ vBk1 = vB ∧ vFk1 = vF ∧ vCk1 = vC ∧ vvk1 = vv) (l1 := [.blk g1 [.int .i64 tk1.vars, .int .i64 tk1.den, vBk1, vFk1, vCk1], .blk g2 [.int .i64 0, .int .i64 0, .slice none 0 0, .slice none 0 0, .slice none 0 0]]) (l2 := []) (Sat.bundle (l1 := [.blk g1 [.int .i64 tk1.vars, .int .i64 tk1.den, vBk1, vFk1, vCk1], .blk g2 [.int .i64 0, .int .i64 0, .slice none 0 0, .slice none 0 0, .slice none 0 0]]) (l2 := [.own vBk1 1 3 tk1.nb (ints tk1.B), .own vFk1 1 3 tk1.nf (ints tk1.F), .own vCk1 1 22 tk1.nc vvk1, .sem (Frame.rows 3 tk1.nc vvk1 tk1.ln tk1.C)]) hS)
  replace hS := hS.n3
  refine zlv (xadd (r := n + 1)) ?_
  refine zlv xas ?_
  refine zln <| zlq ⟨tk1, vBk1, vFk1, vCk1, vvk1, n + 1, rfl, (by omega), (by omega), ?_, ?_, ?_, ?_, rfl, hS.sub (List.Sublist.refl _)⟩
  ·
   exact hsBk1
  ·
   exact hsFk1
  ·
   exact hsCk1
  ·
   intro z e hz; have he0 : ek1 = 0 := (by omega); rw [he0] at hpvk1; exact hrun z e (by rw [show (1000 - n).toNat = (1000 - (n + 1)).toNat + 1 by omega]; exact .go hn0 hpvk1 hz)

def OptR (t t' : Tb) (e : Int) : Prop := ∃ u f, Run 1000 t u f ∧ ((f = 0 ∧ e = 0 ∧ t' = u) ∨ (f ≠ 0 ∧ e = f ∧ t' = Tb.zero))
theorem OptR.same {t t1 t2 : Tb} {e1 e2 : Int} (h1 : OptR t t1 e1) (h2 : OptR t t2 e2) : t1 = t2 ∧ e1 = e2 := by
  obtain ⟨u, f, hr, h⟩ := h1
  obtain ⟨u', f', hr', h'⟩ := h2
  obtain ⟨rfl, rfl⟩ := hr.same hr'
  rcases h with ⟨a1, a2, a3⟩ | ⟨a1, a2, a3⟩ <;> rcases h' with ⟨b1, b2, b3⟩ | ⟨b1, b2, b3⟩
  · exact ⟨by rw [a3, b3], by omega⟩
  · exact absurd a1 b1
  · exact absurd b1 a1
  · exact ⟨by rw [a3, b3], by omega⟩

set_option maxRecDepth 20000 in
theorem c_Optimize {vB vF vC : Value} {vv : Int → Value} {t : Tb} (w0 : World) (hT : TAt w0 vB vF vC vv t) :
    Calls Try.prog 28 [.agg #[.int .i64 t.vars, .int .i64 t.den, vB, vF, vC]].toArray w0 fun e w => ∃ v, e = .returned v ∧ ∃ vB vF vC vv t' e, v = .tuple #[.agg #[.int .i64 t'.vars, .int .i64 t'.den, vB, vF, vC], .int .i64 e] ∧ OptR t t' e ∧ Slh vB t'.nb ∧ Slh vF t'.nf ∧ Slh vC t'.nc ∧ Sat w0 w [.own vB 1 3 t'.nb (ints t'.B), .own vF 1 3 t'.nf (ints t'.F), .own vC 1 22 t'.nc vv, .sem (Frame.rows 3 t'.nc vv t'.ln t'.C)] := by
  refine zenG Try.func28 Try.ntmps28 fun w hS => ?_
  refine zsr ?_
  refine zla (xbx (cs := [_, _, _, _, _]) hS) ?_; rintro _ w ⟨g1, rfl, hS⟩
  replace hS := hS.n1
  refine zla (xal (cs := [_, _, _, _, _]) el_28 hS) ?_; rintro _ w ⟨g2, rfl, hS⟩
  replace hS := hS.n2
  refine zlv xas ?_
  refine zlz ?_
  refine zlv (xls 0 st_28 hS) ?_
  refine zlc (xc0 cl_70) (c_optimize (t := t) w (hT.below hS.below)) ?_; rintro _ w ⟨xBu1, xFu1, xCu1, xvu1, uu1, euu1, rfl, hrunu1, hxBu1, hxFu1, hxCu1, hS'⟩
  replace hS : Sat w0 w [.blk g1 [.int .i64 t.vars, .int .i64 t.den, vB, vF, vC], .blk g2 [.int .i64 0, .int .i64 0, .slice none 0 0, .slice none 0 0, .slice none 0 0], .sem (Frame.alt (uu1 = t ∧ xBu1 = vB ∧ xFu1 = vF ∧ xCu1 = vC ∧ xvu1 = vv) (Frame.bun [.own xBu1 1 3 uu1.nb (ints uu1.B), .own xFu1 1 3 uu1.nf (ints uu1.F), .own xCu1 1 22 uu1.nc xvu1, .sem (Frame.rows 3 uu1.nc xvu1 uu1.ln uu1.C)]))] := hS.comp hS'; clear hS'
  have hxru1 := fun k (k0 : 0 ≤ k) (k1 : k < uu1.nc) => ((tat_alt (hT.below hS.below) hS 2 rfl).C.p k k0 k1).slh
  refine zs3 ?_
  refine zla (xal (cs := [_, _, _, _, _]) el_28 hS) ?_; rintro _ w ⟨g3, rfl, hS⟩
  replace hS := hS.n4
  refine zle (xsw 3 st_28 hS (hd := (ones_cons rfl (ones_cons rfl (ones_cons hxBu1.one (ones_cons hxFu1.one (ones_cons hxCu1.one ones_nil))))))) ?_; clear hS; rintro w hS
  replace hS := hS.n4
  refine zlv xas ?_
  refine zlt <| zsq <| zsr ?_
  refine zs2 ?_
  refine zlt ?_
  refine zcif ?_ ?_ <;> intro hc
  ·
   refine zsr ?_
   refine zlv (xany (v := .agg #[.int .i64 0, .int .i64 0, .slice none 0 0, .slice none 0 0, .slice none 0 0])) ?_
   refine zlv xmv ?_
   refine zle (xsw 1 st_28 hS) ?_; clear hS; rintro w hS
   replace hS := hS.n4
   refine zlv xas ?_
   refine zlt <| zrt <| ztr <| zfct 1 st_28 hS ⟨_, rfl, ?_⟩
   exact ⟨_, _, _, fun _ => undef, Tb.zero, _, rfl, ⟨_, _, hrunu1, .inr ⟨by omega, rfl, rfl⟩⟩, slh_nil, slh_nil, slh_nil, ((((hS.sub (.cons _ (.cons _ (.cons _ (.cons _ .slnil))))).addnil 1 3 (ints Tb.zero.B)).addnil 1 3 (ints Tb.zero.F)).addnil 1 22 (fun _ => undef)).addrows 3 (fun _ => undef) Tb.zero.ln Tb.zero.C⟩
  refine zsk <| ztn <| zsq <| ?_
  refine zgcut (fun M w => ∃ (vq1 : Value) (vq2 : Value) (voq3 : Value) (vwq3 : Int → Value), (Slh vq1 uu1.nb) ∧ (Slh vq2 uu1.nf) ∧ (Slh voq3 uu1.nc) ∧ (∀ k, 0 ≤ k → k < uu1.nc → Slh (vwq3 k) (uu1.ln k)) ∧ M = [(0, .agg #[.int .i64 t.vars, .int .i64 t.den, vB, vF, vC]), (1, .pointer (some ⟨g1, 0, none⟩)), (2, .pointer (some ⟨g2, 0, none⟩)), (3, .int .i64 0), (7, .agg #[.int .i64 t.vars, .int .i64 t.den, vB, vF, vC]), (8, .tuple #[.agg #[.int .i64 uu1.vars, .int .i64 uu1.den, xBu1, xFu1, xCu1], .int .i64 euu1]), (6, .tuple #[.agg #[.int .i64 uu1.vars, .int .i64 uu1.den, xBu1, xFu1, xCu1], .int .i64 euu1]), (9, .agg #[.int .i64 uu1.vars, .int .i64 uu1.den, xBu1, xFu1, xCu1]), (10, .int .i64 euu1), (4, .pointer (some ⟨g3, 0, none⟩)), (5, .int .i64 euu1), (11, .int .i64 euu1), (12, B (euu1 ≠ 0)), (15, .pointer (some ⟨g3, 2, none⟩)), (16, xBu1), (18, .pointer (some ⟨g3, 3, none⟩)), (19, xFu1), (21, .pointer (some ⟨g3, 4, none⟩)), (22, xCu1), (17, vq1), (24, .pointer (some ⟨g3, 2, none⟩)), (20, vq2), (23, voq3), (25, .pointer (some ⟨g3, 3, none⟩)), (26, .pointer (some ⟨g3, 4, none⟩))] ∧ Sat w0 w [.blk g1 [.int .i64 t.vars, .int .i64 t.den, vB, vF, vC], .blk g2 [.int .i64 0, .int .i64 0, .slice none 0 0, .slice none 0 0, .slice none 0 0], .sem (Frame.alt (uu1 = t ∧ xBu1 = vB ∧ xFu1 = vF ∧ xCu1 = vC ∧ xvu1 = vv) (Frame.bun [.own xBu1 1 3 uu1.nb (ints uu1.B), .own xFu1 1 3 uu1.nf (ints uu1.F), .own xCu1 1 22 uu1.nc xvu1, .sem (Frame.rows 3 uu1.nc xvu1 uu1.ln uu1.C)])), .blk g3 [.int .i64 uu1.vars, .int .i64 uu1.den, vq1, vq2, voq3], .own vq1 1 3 uu1.nb (ints uu1.B), .own vq2 1 3 uu1.nf (ints uu1.F), .own voq3 1 22 uu1.nc vwq3, .sem (Frame.rows 3 uu1.nc vwq3 uu1.ln uu1.C)]) ?_ ?_
  ·
   refine zdst [0, 1, 2, 3] [0, 1, 2] 10 mx_ hS ?_; clear hS; intro w hS
   refine zdv 0 (fun _ => (xfb 2 fd_28_2)) ?_
   obtain ⟨hp, _, _, _⟩ := hrunu1.fin (.inl (by omega))
   have b1 := hp.n1
   have b2 := hp.n2
   have b3 := hp.m2
   have b4 := hp.v
   have b5 := hp.d1
   have b6 := hp.d2
   have b7 := hp.c
   refine zdl 1 (fun w hS => (xlb 3 pl_22 hS)) ?_
   refine zdv 3 (fun _ => (xfb 3 fd_28_3)) ?_
   refine zdl 4 (fun w hS => (xlb 3 pl_22 hS)) ?_
   refine zdv 6 (fun _ => (xfb 4 fd_28_4)) ?_
   refine zdl 7 (fun w hS => (xlb 3 pl_23 hS)) ?_
   refine zdc 2 (xc0 cl_65) (c_clone (n := uu1.nb) (f := uu1.B) w (tat_alt (hT.below hS.below) hS 2 rfl).B (by omega)) ?_; rintro vq1 w ⟨_, rfl, hslq1, hS'⟩
   replace hS : Sat w0 w [.blk g1 [.int .i64 t.vars, .int .i64 t.den, vB, vF, vC], .blk g2 [.int .i64 0, .int .i64 0, .slice none 0 0, .slice none 0 0, .slice none 0 0], .sem (Frame.alt (uu1 = t ∧ xBu1 = vB ∧ xFu1 = vF ∧ xCu1 = vC ∧ xvu1 = vv) (Frame.bun [.own xBu1 1 3 uu1.nb (ints uu1.B), .own xFu1 1 3 uu1.nf (ints uu1.F), .own xCu1 1 22 uu1.nc xvu1, .sem (Frame.rows 3 uu1.nc xvu1 uu1.ln uu1.C)])), .blk g3 [.int .i64 uu1.vars, .int .i64 uu1.den, xBu1, xFu1, xCu1], .own vq1 1 3 uu1.nb (ints uu1.B)] := hS.comp hS'; clear hS'
   refine ⟨⟨fun _ => hS.pk [0, 1, 2, 3], hS.pk [0, 1, 2]⟩, ?_⟩
   refine zdv 9 (fun _ => (xfb 2 fd_28_2)) ?_
   refine zdc 5 (xc0 cl_65) (c_clone (n := uu1.nf) (f := uu1.F) w (tat_alt (hT.below hS.below) hS 2 rfl).F (by omega)) ?_; rintro vq2 w ⟨_, rfl, hslq2, hS'⟩
   replace hS : Sat w0 w [.blk g1 [.int .i64 t.vars, .int .i64 t.den, vB, vF, vC], .blk g2 [.int .i64 0, .int .i64 0, .slice none 0 0, .slice none 0 0, .slice none 0 0], .sem (Frame.alt (uu1 = t ∧ xBu1 = vB ∧ xFu1 = vF ∧ xCu1 = vC ∧ xvu1 = vv) (Frame.bun [.own xBu1 1 3 uu1.nb (ints uu1.B), .own xFu1 1 3 uu1.nf (ints uu1.F), .own xCu1 1 22 uu1.nc xvu1, .sem (Frame.rows 3 uu1.nc xvu1 uu1.ln uu1.C)])), .blk g3 [.int .i64 uu1.vars, .int .i64 uu1.den, xBu1, xFu1, xCu1], .own vq1 1 3 uu1.nb (ints uu1.B), .own vq2 1 3 uu1.nf (ints uu1.F)] := hS.comp hS'; clear hS'
   refine ⟨⟨fun _ => hS.pk [0, 1, 2, 3], hS.pk [0, 1, 2]⟩, ?_⟩
   refine zdc 8 (xc0 cl_71) (c_cloned (n := uu1.nc) (vv := xvu1) (ln := uu1.ln) (f := uu1.C) w (tat_alt (hT.below hS.below) hS 2 rfl).C (by omega) (fun k k0 k1 => by have := hp.len (i := k) (by omega) (by omega); omega)) ?_; rintro voq3 w ⟨_, vwq3, rfl, hslq3, hS'⟩
   replace hS : Sat w0 w [.blk g1 [.int .i64 t.vars, .int .i64 t.den, vB, vF, vC], .blk g2 [.int .i64 0, .int .i64 0, .slice none 0 0, .slice none 0 0, .slice none 0 0], .sem (Frame.alt (uu1 = t ∧ xBu1 = vB ∧ xFu1 = vF ∧ xCu1 = vC ∧ xvu1 = vv) (Frame.bun [.own xBu1 1 3 uu1.nb (ints uu1.B), .own xFu1 1 3 uu1.nf (ints uu1.F), .own xCu1 1 22 uu1.nc xvu1, .sem (Frame.rows 3 uu1.nc xvu1 uu1.ln uu1.C)])), .blk g3 [.int .i64 uu1.vars, .int .i64 uu1.den, xBu1, xFu1, xCu1], .own vq1 1 3 uu1.nb (ints uu1.B), .own vq2 1 3 uu1.nf (ints uu1.F), .own voq3 1 22 uu1.nc vwq3, .sem (Frame.rows 3 uu1.nc vwq3 uu1.ln uu1.C)] := hS.comp hS'; clear hS'
   have hrsq3 := fun k (k0 : 0 ≤ k) (k1 : k < uu1.nc) => hS.slhIn 7 rfl k0 k1
   refine ⟨⟨fun _ => hS.pk [0, 1, 2, 3], hS.pk [0, 1, 2]⟩, ?_⟩
   refine zde 10 (xsb 3 pl_22 hS (hv := hslq1.one)) ?_; clear hS; rintro w hS
   replace hS := hS.n8
   refine ⟨⟨fun h => absurd h (by decide), hS.pk [0, 1, 2]⟩, ?_⟩
   refine zdv 11 (fun _ => (xfb 3 fd_28_3)) ?_
   refine zde 12 (xsb 3 pl_22 hS (hv := hslq2.one)) ?_; clear hS; rintro w hS
   replace hS := hS.n8
   refine ⟨⟨fun h => absurd h (by decide), hS.pk [0, 1, 2]⟩, ?_⟩
   refine zdv 13 (fun _ => (xfb 4 fd_28_4)) ?_
   refine zde 14 (xsb 3 pl_23 hS (hv := hslq3.one)) ?_; clear hS; rintro w hS
   replace hS := hS.n8
   refine ⟨⟨fun h => absurd h (by decide), hS.pk [0, 1, 2]⟩, ?_⟩
   refine zdd <| zgj ⟨vq1, vq2, voq3, vwq3, hslq1, hslq2, hslq3, hrsq3, rfl, hS⟩
  clear hS w; rintro M w ⟨vq1, vq2, voq3, vwq3, hslq1, hslq2, hslq3, hrsq3, rfl, hS⟩
  refine ztn <| zsr ?_
  refine zlv (xls 3 st_28 hS) ?_
  refine zle (xsw 1 st_28 hS (hd := (ones_cons rfl (ones_cons rfl (ones_cons hslq1.one (ones_cons hslq2.one (ones_cons hslq3.one ones_nil))))))) ?_; clear hS; rintro w hS
  replace hS := hS.n8
  refine zlv xas ?_
  refine zlt <| zrt <| zfct 1 st_28 hS ⟨_, rfl, ?_⟩
  have he0 : euu1 = 0 := by omega
  rw [he0] at hrunu1
  exact ⟨_, _, _, _, uu1, 0, rfl, ⟨_, _, hrunu1, .inl ⟨rfl, rfl, rfl⟩⟩, hslq1, hslq2, hslq3, hS.pk [4, 5, 6, 7]⟩

set_option maxRecDepth 20000 in
theorem c_copy {vB vF vC : Value} {vv : Int → Value} {t : Tb} (w0 : World) (hT : TAt w0 vB vF vC vv t) (hp : TPrp t) :
    Calls Try.prog 66 [.agg #[.int .i64 t.vars, .int .i64 t.den, vB, vF, vC]].toArray w0 fun e w => ∃ v, e = .returned v ∧ ∃ xB xF xC xv, v = .agg #[.int .i64 t.vars, .int .i64 t.den, xB, xF, xC] ∧ Slh xB t.nb ∧ Slh xF t.nf ∧ Slh xC t.nc ∧ Sat w0 w [.own xB 1 3 t.nb (ints t.B), .own xF 1 3 t.nf (ints t.F), .own xC 1 22 t.nc xv, .sem (Frame.rows 3 t.nc xv t.ln t.C)] := by
  have hn := hT.F.slh.n0; have hn1 := hT.F.slh.n1; have hb := hT.B.slh.n0; have hb1 := hT.B.slh.n1; have hc0 := hT.C.row.slh.n0; have hc1 := hT.C.row.slh.n1
  have b1 := hp.n1; have b2 := hp.n2; have b3 := hp.m2; have b4 := hp.v; have b5 := hp.d1; have b6 := hp.d2; have b7 := hp.c
  refine zenG Try.func66 Try.ntmps66 fun w hS => ?_
  refine zsr ?_
  refine zla (xbx (cs := [_, _, _, _, _]) hS) ?_; rintro _ w ⟨g1, rfl, hS⟩
  replace hS := hS.n1
  refine zla (xal (cs := [_, _, _, _, _]) el_25 hS) ?_; rintro _ w ⟨g2, rfl, hS⟩
  replace hS := hS.n2
  refine zlt <| zsq <| ?_
  refine zgcut (fun M w => ∃ (g3 : Nat) (v1 : Value) (v2 : Value) (v3 : Value) (v4 : Value), (Slh v2 t.nb) ∧ (Slh v4 t.nf) ∧ M = [(0, .agg #[.int .i64 t.vars, .int .i64 t.den, vB, vF, vC]), (1, .pointer (some ⟨g1, 0, none⟩)), (2, .pointer (some ⟨g2, 0, none⟩)), (5, .pointer (some ⟨g1, 0, none⟩)), (6, .int .i64 t.vars), (7, .pointer (some ⟨g1, 1, none⟩)), (8, .int .i64 t.den), (10, .pointer (some ⟨g1, 2, none⟩)), (11, vB), (14, .pointer (some ⟨g1, 3, none⟩)), (15, vF), (9, v1), (12, v2), (13, v3), (16, v4), (17, .agg #[.int .i64 t.vars, .int .i64 t.den, v2, v4, .slice none 0 0]), (3, .pointer (some ⟨g3, 0, none⟩))] ∧ Sat w0 w [.blk g1 [.int .i64 t.vars, .int .i64 t.den, vB, vF, vC], .blk g2 [.int .i64 0, .int .i64 0, .slice none 0 0, .slice none 0 0, .slice none 0 0], .own v2 1 3 t.nb (ints (cat 0 (fun _ => 0) t.B)), .own v4 1 3 t.nf (ints (cat 0 (fun _ => 0) t.F)), .blk g3 [.int .i64 t.vars, .int .i64 t.den, v2, v4, .slice none 0 0]]) ?_ ?_
  ·
   refine zdst [0, 1] [0, 1] 14 mx_ hS ?_; clear hS; intro w hS
   refine zdv 0 (fun _ => (xfb 0 fd_25_0)) ?_
   refine zdla 1 (fun w hS => (xlb 0 pl_3 hS)) ?_
   refine zdv 2 (fun _ => (xfb 1 fd_25_1)) ?_
   refine zdla 3 (fun w hS => (xlb 0 pl_3 hS)) ?_
   refine zdv 5 (fun _ => (xfb 2 fd_25_2)) ?_
   refine zdla 6 (fun w hS => (xlb 0 pl_22 hS)) ?_
   refine zdv 9 (fun _ => (xfb 3 fd_25_3)) ?_
   refine zdla 10 (fun w hS => (xlb 0 pl_22 hS)) ?_
   refine zdfk (r := [4, 8, 13]) ((zdn1 ?_ (zdn1 ?_ (zdn1 ?_ zdn0))))
   ·
    refine zka (xl0 (c := ints (fun _ => 0)) sl_22 hS) ?_; rintro v1 w ⟨hS, hv1⟩
    replace hS := hS.n3
    refine ⟨⟨fun _ => hS.pk [0, 1], hS.pk [0, 1]⟩, ?_⟩
    refine zdfk (r := [7, 8, 13]) ((zdn1 ?_ (zdn1 ?_ (zdn1 ?_ zdn0))))
    ·
     refine zka (xap 2 (r := t.nb) (f := ints (cat 0 (fun _ => 0) t.B)) sl_22 el_3 hS (hT.B.below hS.below) (by exact cat_ints1 _ _ _)) ?_; rintro v2 w ⟨hS, hv2⟩
     replace hS := hS.n3
     refine ⟨⟨fun _ => hS.pk [0, 1], hS.pk [0, 1]⟩, ?_⟩
     refine zdfk (r := [8, 13]) ((zdn1 ?_ (zdn1 ?_ zdn0)))
     ·
      refine zka (xl0 (c := ints (fun _ => 0)) sl_22 hS) ?_; rintro v3 w ⟨hS, hv3⟩
      replace hS := hS.n4
      refine ⟨⟨fun _ => hS.pk [0, 1], hS.pk [0, 1]⟩, ?_⟩
      refine zdfk (r := [11, 13]) ((zdn1 ?_ (zdn1 ?_ zdn0)))
      ·
       refine zka (xap 3 (r := t.nf) (f := ints (cat 0 (fun _ => 0) t.F)) sl_22 el_3 hS (hT.F.below hS.below) (by exact cat_ints1 _ _ _)) ?_; rintro v4 w ⟨hS, hv4⟩
       replace hS := hS.n4
       refine ⟨⟨fun _ => hS.pk [0, 1], hS.pk [0, 1]⟩, ?_⟩
       refine zdv 12 (fun _ => (xany (v := .agg #[.int .i64 t.vars, .int .i64 t.den, v2, v4, .slice none 0 0]) (hr := by obtain ⟨_, _, _, _, rfl, _⟩ := hv2; obtain ⟨_, _, _, _, rfl, _⟩ := hv4; kernel_rfl))) ?_
       refine zda 13 (xal (cs := [_, _, _, _, _]) el_25 hS) ?_; rintro _ w ⟨g3, rfl, hS⟩
       replace hS := hS.n5
       refine ⟨⟨fun _ => hS.pk [0, 1], hS.pk [0, 1]⟩, ?_⟩
       refine zde 14 (xsw 4 st_25 hS (hd := (ones_cons rfl (ones_cons rfl (ones_cons hv2.one (ones_cons hv4.one (ones_cons rfl ones_nil))))))) ?_; clear hS; rintro w hS
       replace hS := hS.n5
       refine ⟨⟨fun h => absurd h (by decide), hS.pk [0, 1]⟩, ?_⟩
       refine zdd <| zgj ⟨g3, v1, v2, v3, v4, hv2, hv4, rfl, hS⟩
      refine zka (xal (cs := [_, _, _, _, _]) el_25 hS) ?_; rintro _ w ⟨g3, rfl, hS⟩
      replace hS := hS.n5
      refine ⟨⟨fun _ => hS.pk [0, 1], hS.pk [0, 1]⟩, ?_⟩
      refine zda 11 (xap 3 (r := t.nf) (f := ints (cat 0 (fun _ => 0) t.F)) sl_22 el_3 hS (hT.F.below hS.below) (by exact cat_ints1 _ _ _)) ?_; rintro v4 w ⟨hS, hv4⟩
      replace hS := hS.n5
      refine ⟨⟨fun _ => hS.pk [0, 1], hS.pk [0, 1]⟩, ?_⟩
      refine zdv 12 (fun _ => (xany (v := .agg #[.int .i64 t.vars, .int .i64 t.den, v2, v4, .slice none 0 0]) (hr := by obtain ⟨_, _, _, _, rfl, _⟩ := hv2; obtain ⟨_, _, _, _, rfl, _⟩ := hv4; kernel_rfl))) ?_
      refine zde 14 (xsw 4 st_25 hS (hd := (ones_cons rfl (ones_cons rfl (ones_cons hv2.one (ones_cons hv4.one (ones_cons rfl ones_nil))))))) ?_; clear hS; rintro w hS
      replace hS := hS.n5
      refine ⟨⟨fun h => absurd h (by decide), hS.pk [0, 1]⟩, ?_⟩
      refine zdd <| zgj ⟨g3, v1, v2, v3, v4, hv2, hv4, rfl, hS⟩
     refine zka (xal (cs := [_, _, _, _, _]) el_25 hS) ?_; rintro _ w ⟨g3, rfl, hS⟩
     replace hS := hS.n4
     refine ⟨⟨fun _ => hS.pk [0, 1], hS.pk [0, 1]⟩, ?_⟩
     refine zda 8 (xl0 (c := ints (fun _ => 0)) sl_22 hS) ?_; rintro v3 w ⟨hS, hv3⟩
     replace hS := hS.n5
     refine ⟨⟨fun _ => hS.pk [0, 1], hS.pk [0, 1]⟩, ?_⟩
     refine zda 11 (xap 4 (r := t.nf) (f := ints (cat 0 (fun _ => 0) t.F)) sl_22 el_3 hS (hT.F.below hS.below) (by exact cat_ints1 _ _ _)) ?_; rintro v4 w ⟨hS, hv4⟩
     replace hS := hS.n5
     refine ⟨⟨fun _ => hS.pk [0, 1], hS.pk [0, 1]⟩, ?_⟩
     refine zdv 12 (fun _ => (xany (v := .agg #[.int .i64 t.vars, .int .i64 t.den, v2, v4, .slice none 0 0]) (hr := by obtain ⟨_, _, _, _, rfl, _⟩ := hv2; obtain ⟨_, _, _, _, rfl, _⟩ := hv4; kernel_rfl))) ?_
     refine zde 14 (xsw 3 st_25 hS (hd := (ones_cons rfl (ones_cons rfl (ones_cons hv2.one (ones_cons hv4.one (ones_cons rfl ones_nil))))))) ?_; clear hS; rintro w hS
     replace hS := hS.n5
     refine ⟨⟨fun h => absurd h (by decide), hS.pk [0, 1]⟩, ?_⟩
     refine zdd <| zgj ⟨g3, v1, v2, v3, v4, hv2, hv4, rfl, hS.pk [0, 1, 2, 4, 3]⟩
    ·
     refine zka (xl0 (c := ints (fun _ => 0)) sl_22 hS) ?_; rintro v2 w ⟨hS, hv2⟩
     replace hS := hS.n4
     refine ⟨⟨fun _ => hS.pk [0, 1], hS.pk [0, 1]⟩, ?_⟩
     refine zdfk (r := [7, 13]) ((zdn1 ?_ (zdn1 ?_ zdn0)))
     ·
      refine zka (xap 2 (r := t.nb) (f := ints (cat 0 (fun _ => 0) t.B)) sl_22 el_3 hS (hT.B.below hS.below) (by exact cat_ints1 _ _ _)) ?_; rintro v3 w ⟨hS, hv3⟩
      replace hS := hS.n4
      refine ⟨⟨fun _ => hS.pk [0, 1], hS.pk [0, 1]⟩, ?_⟩
      refine zdfk (r := [11, 13]) ((zdn1 ?_ (zdn1 ?_ zdn0)))
      ·
       refine zka (xap 3 (r := t.nf) (f := ints (cat 0 (fun _ => 0) t.F)) sl_22 el_3 hS (hT.F.below hS.below) (by exact cat_ints1 _ _ _)) ?_; rintro v4 w ⟨hS, hv4⟩
       replace hS := hS.n4
       refine ⟨⟨fun _ => hS.pk [0, 1], hS.pk [0, 1]⟩, ?_⟩
       refine zdv 12 (fun _ => (xany (v := .agg #[.int .i64 t.vars, .int .i64 t.den, v3, v4, .slice none 0 0]) (hr := by obtain ⟨_, _, _, _, rfl, _⟩ := hv3; obtain ⟨_, _, _, _, rfl, _⟩ := hv4; kernel_rfl))) ?_
       refine zda 13 (xal (cs := [_, _, _, _, _]) el_25 hS) ?_; rintro _ w ⟨g3, rfl, hS⟩
       replace hS := hS.n5
       refine ⟨⟨fun _ => hS.pk [0, 1], hS.pk [0, 1]⟩, ?_⟩
       refine zde 14 (xsw 4 st_25 hS (hd := (ones_cons rfl (ones_cons rfl (ones_cons hv3.one (ones_cons hv4.one (ones_cons rfl ones_nil))))))) ?_; clear hS; rintro w hS
       replace hS := hS.n5
       refine ⟨⟨fun h => absurd h (by decide), hS.pk [0, 1]⟩, ?_⟩
       refine zdd <| zgj ⟨g3, v1, v3, v2, v4, hv3, hv4, rfl, hS⟩
      refine zka (xal (cs := [_, _, _, _, _]) el_25 hS) ?_; rintro _ w ⟨g3, rfl, hS⟩
      replace hS := hS.n5
      refine ⟨⟨fun _ => hS.pk [0, 1], hS.pk [0, 1]⟩, ?_⟩
      refine zda 11 (xap 3 (r := t.nf) (f := ints (cat 0 (fun _ => 0) t.F)) sl_22 el_3 hS (hT.F.below hS.below) (by exact cat_ints1 _ _ _)) ?_; rintro v4 w ⟨hS, hv4⟩
      replace hS := hS.n5
      refine ⟨⟨fun _ => hS.pk [0, 1], hS.pk [0, 1]⟩, ?_⟩
      refine zdv 12 (fun _ => (xany (v := .agg #[.int .i64 t.vars, .int .i64 t.den, v3, v4, .slice none 0 0]) (hr := by obtain ⟨_, _, _, _, rfl, _⟩ := hv3; obtain ⟨_, _, _, _, rfl, _⟩ := hv4; kernel_rfl))) ?_
      refine zde 14 (xsw 4 st_25 hS (hd := (ones_cons rfl (ones_cons rfl (ones_cons hv3.one (ones_cons hv4.one (ones_cons rfl ones_nil))))))) ?_; clear hS; rintro w hS
      replace hS := hS.n5
      refine ⟨⟨fun h => absurd h (by decide), hS.pk [0, 1]⟩, ?_⟩
      refine zdd <| zgj ⟨g3, v1, v3, v2, v4, hv3, hv4, rfl, hS⟩
     refine zka (xal (cs := [_, _, _, _, _]) el_25 hS) ?_; rintro _ w ⟨g3, rfl, hS⟩
     replace hS := hS.n5
     refine ⟨⟨fun _ => hS.pk [0, 1], hS.pk [0, 1]⟩, ?_⟩
     refine zda 7 (xap 2 (r := t.nb) (f := ints (cat 0 (fun _ => 0) t.B)) sl_22 el_3 hS (hT.B.below hS.below) (by exact cat_ints1 _ _ _)) ?_; rintro v3 w ⟨hS, hv3⟩
     replace hS := hS.n5
     refine ⟨⟨fun _ => hS.pk [0, 1], hS.pk [0, 1]⟩, ?_⟩
     refine zda 11 (xap 3 (r := t.nf) (f := ints (cat 0 (fun _ => 0) t.F)) sl_22 el_3 hS (hT.F.below hS.below) (by exact cat_ints1 _ _ _)) ?_; rintro v4 w ⟨hS, hv4⟩
     replace hS := hS.n5
     refine ⟨⟨fun _ => hS.pk [0, 1], hS.pk [0, 1]⟩, ?_⟩
     refine zdv 12 (fun _ => (xany (v := .agg #[.int .i64 t.vars, .int .i64 t.den, v3, v4, .slice none 0 0]) (hr := by obtain ⟨_, _, _, _, rfl, _⟩ := hv3; obtain ⟨_, _, _, _, rfl, _⟩ := hv4; kernel_rfl))) ?_
     refine zde 14 (xsw 4 st_25 hS (hd := (ones_cons rfl (ones_cons rfl (ones_cons hv3.one (ones_cons hv4.one (ones_cons rfl ones_nil))))))) ?_; clear hS; rintro w hS
     replace hS := hS.n5
     refine ⟨⟨fun h => absurd h (by decide), hS.pk [0, 1]⟩, ?_⟩
     refine zdd <| zgj ⟨g3, v1, v3, v2, v4, hv3, hv4, rfl, hS⟩
    refine zka (xal (cs := [_, _, _, _, _]) el_25 hS) ?_; rintro _ w ⟨g3, rfl, hS⟩
    replace hS := hS.n4
    refine ⟨⟨fun _ => hS.pk [0, 1], hS.pk [0, 1]⟩, ?_⟩
    refine zdfk (r := [7, 8]) ((zdn1 ?_ (zdn1 ?_ zdn0)))
    ·
     refine zka (xap 2 (r := t.nb) (f := ints (cat 0 (fun _ => 0) t.B)) sl_22 el_3 hS (hT.B.below hS.below) (by exact cat_ints1 _ _ _)) ?_; rintro v2 w ⟨hS, hv2⟩
     replace hS := hS.n4
     refine ⟨⟨fun _ => hS.pk [0, 1], hS.pk [0, 1]⟩, ?_⟩
     refine zda 8 (xl0 (c := ints (fun _ => 0)) sl_22 hS) ?_; rintro v3 w ⟨hS, hv3⟩
     replace hS := hS.n5
     refine ⟨⟨fun _ => hS.pk [0, 1], hS.pk [0, 1]⟩, ?_⟩
     refine zda 11 (xap 4 (r := t.nf) (f := ints (cat 0 (fun _ => 0) t.F)) sl_22 el_3 hS (hT.F.below hS.below) (by exact cat_ints1 _ _ _)) ?_; rintro v4 w ⟨hS, hv4⟩
     replace hS := hS.n5
     refine ⟨⟨fun _ => hS.pk [0, 1], hS.pk [0, 1]⟩, ?_⟩
     refine zdv 12 (fun _ => (xany (v := .agg #[.int .i64 t.vars, .int .i64 t.den, v2, v4, .slice none 0 0]) (hr := by obtain ⟨_, _, _, _, rfl, _⟩ := hv2; obtain ⟨_, _, _, _, rfl, _⟩ := hv4; kernel_rfl))) ?_
     refine zde 14 (xsw 3 st_25 hS (hd := (ones_cons rfl (ones_cons rfl (ones_cons hv2.one (ones_cons hv4.one (ones_cons rfl ones_nil))))))) ?_; clear hS; rintro w hS
     replace hS := hS.n5
     refine ⟨⟨fun h => absurd h (by decide), hS.pk [0, 1]⟩, ?_⟩
     refine zdd <| zgj ⟨g3, v1, v2, v3, v4, hv2, hv4, rfl, hS.pk [0, 1, 2, 4, 3]⟩
    refine zka (xl0 (c := ints (fun _ => 0)) sl_22 hS) ?_; rintro v2 w ⟨hS, hv2⟩
    replace hS := hS.n5
    refine ⟨⟨fun _ => hS.pk [0, 1], hS.pk [0, 1]⟩, ?_⟩
    refine zda 7 (xap 2 (r := t.nb) (f := ints (cat 0 (fun _ => 0) t.B)) sl_22 el_3 hS (hT.B.below hS.below) (by exact cat_ints1 _ _ _)) ?_; rintro v3 w ⟨hS, hv3⟩
    replace hS := hS.n5
    refine ⟨⟨fun _ => hS.pk [0, 1], hS.pk [0, 1]⟩, ?_⟩
    refine zda 11 (xap 4 (r := t.nf) (f := ints (cat 0 (fun _ => 0) t.F)) sl_22 el_3 hS (hT.F.below hS.below) (by exact cat_ints1 _ _ _)) ?_; rintro v4 w ⟨hS, hv4⟩
    replace hS := hS.n5
    refine ⟨⟨fun _ => hS.pk [0, 1], hS.pk [0, 1]⟩, ?_⟩
    refine zdv 12 (fun _ => (xany (v := .agg #[.int .i64 t.vars, .int .i64 t.den, v3, v4, .slice none 0 0]) (hr := by obtain ⟨_, _, _, _, rfl, _⟩ := hv3; obtain ⟨_, _, _, _, rfl, _⟩ := hv4; kernel_rfl))) ?_
    refine zde 14 (xsw 3 st_25 hS (hd := (ones_cons rfl (ones_cons rfl (ones_cons hv3.one (ones_cons hv4.one (ones_cons rfl ones_nil))))))) ?_; clear hS; rintro w hS
    replace hS := hS.n5
    refine ⟨⟨fun h => absurd h (by decide), hS.pk [0, 1]⟩, ?_⟩
    refine zdd <| zgj ⟨g3, v1, v3, v2, v4, hv3, hv4, rfl, hS.pk [0, 1, 2, 4, 3]⟩
   ·
    refine zka (xl0 (c := ints (fun _ => 0)) sl_22 hS) ?_; rintro v1 w ⟨hS, hv1⟩
    replace hS := hS.n3
    refine ⟨⟨fun _ => hS.pk [0, 1], hS.pk [0, 1]⟩, ?_⟩
    refine zdfk (r := [4, 13]) ((zdn1 ?_ (zdn1 ?_ zdn0)))
    ·
     refine zka (xl0 (c := ints (fun _ => 0)) sl_22 hS) ?_; rintro v2 w ⟨hS, hv2⟩
     replace hS := hS.n4
     refine ⟨⟨fun _ => hS.pk [0, 1], hS.pk [0, 1]⟩, ?_⟩
     refine zdfk (r := [7, 13]) ((zdn1 ?_ (zdn1 ?_ zdn0)))
     ·
      refine zka (xap 3 (r := t.nb) (f := ints (cat 0 (fun _ => 0) t.B)) sl_22 el_3 hS (hT.B.below hS.below) (by exact cat_ints1 _ _ _)) ?_; rintro v3 w ⟨hS, hv3⟩
      replace hS := hS.n4
      refine ⟨⟨fun _ => hS.pk [0, 1], hS.pk [0, 1]⟩, ?_⟩
      refine zdfk (r := [11, 13]) ((zdn1 ?_ (zdn1 ?_ zdn0)))
      ·
       refine zka (xap 2 (r := t.nf) (f := ints (cat 0 (fun _ => 0) t.F)) sl_22 el_3 hS (hT.F.below hS.below) (by exact cat_ints1 _ _ _)) ?_; rintro v4 w ⟨hS, hv4⟩
       replace hS := hS.n4
       refine ⟨⟨fun _ => hS.pk [0, 1], hS.pk [0, 1]⟩, ?_⟩
       refine zdv 12 (fun _ => (xany (v := .agg #[.int .i64 t.vars, .int .i64 t.den, v3, v4, .slice none 0 0]) (hr := by obtain ⟨_, _, _, _, rfl, _⟩ := hv3; obtain ⟨_, _, _, _, rfl, _⟩ := hv4; kernel_rfl))) ?_
       refine zda 13 (xal (cs := [_, _, _, _, _]) el_25 hS) ?_; rintro _ w ⟨g3, rfl, hS⟩
       replace hS := hS.n5
       refine ⟨⟨fun _ => hS.pk [0, 1], hS.pk [0, 1]⟩, ?_⟩
       refine zde 14 (xsw 4 st_25 hS (hd := (ones_cons rfl (ones_cons rfl (ones_cons hv3.one (ones_cons hv4.one (ones_cons rfl ones_nil))))))) ?_; clear hS; rintro w hS
       replace hS := hS.n5
       refine ⟨⟨fun h => absurd h (by decide), hS.pk [0, 1]⟩, ?_⟩
       refine zdd <| zgj ⟨g3, v2, v3, v1, v4, hv3, hv4, rfl, hS.pk [0, 1, 3, 2, 4]⟩
      refine zka (xal (cs := [_, _, _, _, _]) el_25 hS) ?_; rintro _ w ⟨g3, rfl, hS⟩
      replace hS := hS.n5
      refine ⟨⟨fun _ => hS.pk [0, 1], hS.pk [0, 1]⟩, ?_⟩
      refine zda 11 (xap 2 (r := t.nf) (f := ints (cat 0 (fun _ => 0) t.F)) sl_22 el_3 hS (hT.F.below hS.below) (by exact cat_ints1 _ _ _)) ?_; rintro v4 w ⟨hS, hv4⟩
      replace hS := hS.n5
      refine ⟨⟨fun _ => hS.pk [0, 1], hS.pk [0, 1]⟩, ?_⟩
      refine zdv 12 (fun _ => (xany (v := .agg #[.int .i64 t.vars, .int .i64 t.den, v3, v4, .slice none 0 0]) (hr := by obtain ⟨_, _, _, _, rfl, _⟩ := hv3; obtain ⟨_, _, _, _, rfl, _⟩ := hv4; kernel_rfl))) ?_
      refine zde 14 (xsw 4 st_25 hS (hd := (ones_cons rfl (ones_cons rfl (ones_cons hv3.one (ones_cons hv4.one (ones_cons rfl ones_nil))))))) ?_; clear hS; rintro w hS
      replace hS := hS.n5
      refine ⟨⟨fun h => absurd h (by decide), hS.pk [0, 1]⟩, ?_⟩
      refine zdd <| zgj ⟨g3, v2, v3, v1, v4, hv3, hv4, rfl, hS.pk [0, 1, 3, 2, 4]⟩
     refine zka (xal (cs := [_, _, _, _, _]) el_25 hS) ?_; rintro _ w ⟨g3, rfl, hS⟩
     replace hS := hS.n5
     refine ⟨⟨fun _ => hS.pk [0, 1], hS.pk [0, 1]⟩, ?_⟩
     refine zda 7 (xap 3 (r := t.nb) (f := ints (cat 0 (fun _ => 0) t.B)) sl_22 el_3 hS (hT.B.below hS.below) (by exact cat_ints1 _ _ _)) ?_; rintro v3 w ⟨hS, hv3⟩
     replace hS := hS.n5
     refine ⟨⟨fun _ => hS.pk [0, 1], hS.pk [0, 1]⟩, ?_⟩
     refine zda 11 (xap 2 (r := t.nf) (f := ints (cat 0 (fun _ => 0) t.F)) sl_22 el_3 hS (hT.F.below hS.below) (by exact cat_ints1 _ _ _)) ?_; rintro v4 w ⟨hS, hv4⟩
     replace hS := hS.n5
     refine ⟨⟨fun _ => hS.pk [0, 1], hS.pk [0, 1]⟩, ?_⟩
     refine zdv 12 (fun _ => (xany (v := .agg #[.int .i64 t.vars, .int .i64 t.den, v3, v4, .slice none 0 0]) (hr := by obtain ⟨_, _, _, _, rfl, _⟩ := hv3; obtain ⟨_, _, _, _, rfl, _⟩ := hv4; kernel_rfl))) ?_
     refine zde 14 (xsw 4 st_25 hS (hd := (ones_cons rfl (ones_cons rfl (ones_cons hv3.one (ones_cons hv4.one (ones_cons rfl ones_nil))))))) ?_; clear hS; rintro w hS
     replace hS := hS.n5
     refine ⟨⟨fun h => absurd h (by decide), hS.pk [0, 1]⟩, ?_⟩
     refine zdd <| zgj ⟨g3, v2, v3, v1, v4, hv3, hv4, rfl, hS.pk [0, 1, 3, 2, 4]⟩
    refine zka (xal (cs := [_, _, _, _, _]) el_25 hS) ?_; rintro _ w ⟨g3, rfl, hS⟩
    replace hS := hS.n4
    refine ⟨⟨fun _ => hS.pk [0, 1], hS.pk [0, 1]⟩, ?_⟩
    refine zda 4 (xl0 (c := ints (fun _ => 0)) sl_22 hS) ?_; rintro v2 w ⟨hS, hv2⟩
    replace hS := hS.n5
    refine ⟨⟨fun _ => hS.pk [0, 1], hS.pk [0, 1]⟩, ?_⟩
    refine zda 7 (xap 4 (r := t.nb) (f := ints (cat 0 (fun _ => 0) t.B)) sl_22 el_3 hS (hT.B.below hS.below) (by exact cat_ints1 _ _ _)) ?_; rintro v3 w ⟨hS, hv3⟩
    replace hS := hS.n5
    refine ⟨⟨fun _ => hS.pk [0, 1], hS.pk [0, 1]⟩, ?_⟩
    refine zda 11 (xap 2 (r := t.nf) (f := ints (cat 0 (fun _ => 0) t.F)) sl_22 el_3 hS (hT.F.below hS.below) (by exact cat_ints1 _ _ _)) ?_; rintro v4 w ⟨hS, hv4⟩
    replace hS := hS.n5
    refine ⟨⟨fun _ => hS.pk [0, 1], hS.pk [0, 1]⟩, ?_⟩
    refine zdv 12 (fun _ => (xany (v := .agg #[.int .i64 t.vars, .int .i64 t.den, v3, v4, .slice none 0 0]) (hr := by obtain ⟨_, _, _, _, rfl, _⟩ := hv3; obtain ⟨_, _, _, _, rfl, _⟩ := hv4; kernel_rfl))) ?_
    refine zde 14 (xsw 3 st_25 hS (hd := (ones_cons rfl (ones_cons rfl (ones_cons hv3.one (ones_cons hv4.one (ones_cons rfl ones_nil))))))) ?_; clear hS; rintro w hS
    replace hS := hS.n5
    refine ⟨⟨fun h => absurd h (by decide), hS.pk [0, 1]⟩, ?_⟩
    refine zdd <| zgj ⟨g3, v2, v3, v1, v4, hv3, hv4, rfl, hS.pk [0, 1, 4, 2, 3]⟩
   refine zka (xal (cs := [_, _, _, _, _]) el_25 hS) ?_; rintro _ w ⟨g3, rfl, hS⟩
   replace hS := hS.n3
   refine ⟨⟨fun _ => hS.pk [0, 1], hS.pk [0, 1]⟩, ?_⟩
   refine zdfk (r := [4, 8]) ((zdn1 ?_ (zdn1 ?_ zdn0)))
   ·
    refine zka (xl0 (c := ints (fun _ => 0)) sl_22 hS) ?_; rintro v1 w ⟨hS, hv1⟩
    replace hS := hS.n4
    refine ⟨⟨fun _ => hS.pk [0, 1], hS.pk [0, 1]⟩, ?_⟩
    refine zdfk (r := [7, 8]) ((zdn1 ?_ (zdn1 ?_ zdn0)))
    ·
     refine zka (xap 3 (r := t.nb) (f := ints (cat 0 (fun _ => 0) t.B)) sl_22 el_3 hS (hT.B.below hS.below) (by exact cat_ints1 _ _ _)) ?_; rintro v2 w ⟨hS, hv2⟩
     replace hS := hS.n4
     refine ⟨⟨fun _ => hS.pk [0, 1], hS.pk [0, 1]⟩, ?_⟩
     refine zda 8 (xl0 (c := ints (fun _ => 0)) sl_22 hS) ?_; rintro v3 w ⟨hS, hv3⟩
     replace hS := hS.n5
     refine ⟨⟨fun _ => hS.pk [0, 1], hS.pk [0, 1]⟩, ?_⟩
     refine zda 11 (xap 4 (r := t.nf) (f := ints (cat 0 (fun _ => 0) t.F)) sl_22 el_3 hS (hT.F.below hS.below) (by exact cat_ints1 _ _ _)) ?_; rintro v4 w ⟨hS, hv4⟩
     replace hS := hS.n5
     refine ⟨⟨fun _ => hS.pk [0, 1], hS.pk [0, 1]⟩, ?_⟩
     refine zdv 12 (fun _ => (xany (v := .agg #[.int .i64 t.vars, .int .i64 t.den, v2, v4, .slice none 0 0]) (hr := by obtain ⟨_, _, _, _, rfl, _⟩ := hv2; obtain ⟨_, _, _, _, rfl, _⟩ := hv4; kernel_rfl))) ?_
     refine zde 14 (xsw 2 st_25 hS (hd := (ones_cons rfl (ones_cons rfl (ones_cons hv2.one (ones_cons hv4.one (ones_cons rfl ones_nil))))))) ?_; clear hS; rintro w hS
     replace hS := hS.n5
     refine ⟨⟨fun h => absurd h (by decide), hS.pk [0, 1]⟩, ?_⟩
     refine zdd <| zgj ⟨g3, v1, v2, v3, v4, hv2, hv4, rfl, hS.pk [0, 1, 3, 4, 2]⟩
    refine zka (xl0 (c := ints (fun _ => 0)) sl_22 hS) ?_; rintro v2 w ⟨hS, hv2⟩
    replace hS := hS.n5
    refine ⟨⟨fun _ => hS.pk [0, 1], hS.pk [0, 1]⟩, ?_⟩
    refine zda 7 (xap 3 (r := t.nb) (f := ints (cat 0 (fun _ => 0) t.B)) sl_22 el_3 hS (hT.B.below hS.below) (by exact cat_ints1 _ _ _)) ?_; rintro v3 w ⟨hS, hv3⟩
    replace hS := hS.n5
    refine ⟨⟨fun _ => hS.pk [0, 1], hS.pk [0, 1]⟩, ?_⟩
    refine zda 11 (xap 4 (r := t.nf) (f := ints (cat 0 (fun _ => 0) t.F)) sl_22 el_3 hS (hT.F.below hS.below) (by exact cat_ints1 _ _ _)) ?_; rintro v4 w ⟨hS, hv4⟩
    replace hS := hS.n5
    refine ⟨⟨fun _ => hS.pk [0, 1], hS.pk [0, 1]⟩, ?_⟩
    refine zdv 12 (fun _ => (xany (v := .agg #[.int .i64 t.vars, .int .i64 t.den, v3, v4, .slice none 0 0]) (hr := by obtain ⟨_, _, _, _, rfl, _⟩ := hv3; obtain ⟨_, _, _, _, rfl, _⟩ := hv4; kernel_rfl))) ?_
    refine zde 14 (xsw 2 st_25 hS (hd := (ones_cons rfl (ones_cons rfl (ones_cons hv3.one (ones_cons hv4.one (ones_cons rfl ones_nil))))))) ?_; clear hS; rintro w hS
    replace hS := hS.n5
    refine ⟨⟨fun h => absurd h (by decide), hS.pk [0, 1]⟩, ?_⟩
    refine zdd <| zgj ⟨g3, v1, v3, v2, v4, hv3, hv4, rfl, hS.pk [0, 1, 3, 4, 2]⟩
   refine zka (xl0 (c := ints (fun _ => 0)) sl_22 hS) ?_; rintro v1 w ⟨hS, hv1⟩
   replace hS := hS.n4
   refine ⟨⟨fun _ => hS.pk [0, 1], hS.pk [0, 1]⟩, ?_⟩
   refine zda 4 (xl0 (c := ints (fun _ => 0)) sl_22 hS) ?_; rintro v2 w ⟨hS, hv2⟩
   replace hS := hS.n5
   refine ⟨⟨fun _ => hS.pk [0, 1], hS.pk [0, 1]⟩, ?_⟩
   refine zda 7 (xap 4 (r := t.nb) (f := ints (cat 0 (fun _ => 0) t.B)) sl_22 el_3 hS (hT.B.below hS.below) (by exact cat_ints1 _ _ _)) ?_; rintro v3 w ⟨hS, hv3⟩
   replace hS := hS.n5
   refine ⟨⟨fun _ => hS.pk [0, 1], hS.pk [0, 1]⟩, ?_⟩
   refine zda 11 (xap 3 (r := t.nf) (f := ints (cat 0 (fun _ => 0) t.F)) sl_22 el_3 hS (hT.F.below hS.below) (by exact cat_ints1 _ _ _)) ?_; rintro v4 w ⟨hS, hv4⟩
   replace hS := hS.n5
   refine ⟨⟨fun _ => hS.pk [0, 1], hS.pk [0, 1]⟩, ?_⟩
   refine zdv 12 (fun _ => (xany (v := .agg #[.int .i64 t.vars, .int .i64 t.den, v3, v4, .slice none 0 0]) (hr := by obtain ⟨_, _, _, _, rfl, _⟩ := hv3; obtain ⟨_, _, _, _, rfl, _⟩ := hv4; kernel_rfl))) ?_
   refine zde 14 (xsw 2 st_25 hS (hd := (ones_cons rfl (ones_cons rfl (ones_cons hv3.one (ones_cons hv4.one (ones_cons rfl ones_nil))))))) ?_; clear hS; rintro w hS
   replace hS := hS.n5
   refine ⟨⟨fun h => absurd h (by decide), hS.pk [0, 1]⟩, ?_⟩
   refine zdd <| zgj ⟨g3, v2, v3, v1, v4, hv3, hv4, rfl, hS.pk [0, 1, 4, 3, 2]⟩
  clear hS w; rintro M w ⟨g3, v1, v2, v3, v4, hv2, hv4, rfl, hS⟩
  refine ztn <| zsq <| zsr ?_
  refine zlv xas ?_
  refine zlt <| zbk ?_
  replace hS := hS.addnil 1 22 (fun _ => Value.slice none 0 0)
  replace hS := hS.n6
  replace hS := hS.addrows 3 (fun _ => Value.slice none 0 0) t.ln t.C
  replace hS := hS.n7
  replace hS := hS.n7
  have hrs0 := fun k (k0 : 0 ≤ k) (k1 : k < 0) => hS.slhIn 6 rfl k0 k1
  refine zlp (fun mm M w => ∃ (nC : Int) (wv : Int → Value) (i : Int) (wC : Value), mm = ((t.nc - i).toNat) ∧ (0 ≤ i) ∧ (i ≤ t.nc) ∧ (nC = i) ∧ (Slh wC nC) ∧ M = [(1, .pointer (some ⟨g1, 0, none⟩)), (2, .pointer (some ⟨g2, 0, none⟩)), (3, .pointer (some ⟨g3, 0, none⟩)), (4, .int .i64 i)] ∧ Sat w0 w [.blk g1 [.int .i64 t.vars, .int .i64 t.den, vB, vF, vC], .blk g2 [.int .i64 0, .int .i64 0, .slice none 0 0, .slice none 0 0, .slice none 0 0], .own v2 1 3 t.nb (ints (cat 0 (fun _ => 0) t.B)), .own v4 1 3 t.nf (ints (cat 0 (fun _ => 0) t.F)), .blk g3 [.int .i64 t.vars, .int .i64 t.den, v2, v4, wC], .own wC 1 22 nC wv, .sem (Frame.rows 3 nC wv t.ln t.C)]) ⟨0, (fun _ => Value.slice none 0 0), 0, (.slice none 0 0), rfl, (by omega), (by omega), (by omega), ?_, rfl, hS⟩ ?_
  ·
   exact slh_nil
  clear hS w
  rintro mm M w ⟨nC, wv, i, wC, rfl, h0, h1, hnC, hwC, rfl, hS⟩
  have hrs1 := fun k (k0 : 0 ≤ k) (k1 : k < nC) => hS.slhIn 6 rfl k0 k1
  refine zsq <| zsr ?_
  refine zlv xmv ?_
  refine zlv (xfb 4 fd_25_4) ?_
  refine zlv (xlb 0 pl_23 hS) ?_
  refine zlv (xln sl_23 hT.C.row.slh) ?_
  refine zlv xlss ?_
  refine zlt ?_
  refine zcif ?_ ?_ <;> intro hc
  ·
   refine zsk <| ztn <| zsq <| zbk ?_
   refine zdst [0, 1, 4] [0, 1] 12 mx_ hS ?_; clear hS; intro w hS
   refine zdv 0 (fun _ => (xfb 4 fd_25_4)) ?_
   have hli := hp.len (i := i) (by omega) (by omega)
   refine zdl 1 (fun w hS => (xlb 2 pl_23 hS)) ?_
   refine zdv 3 (fun _ => (xfb 4 fd_25_4)) ?_
   refine zdla 4 (fun w hS => (xlb 0 pl_23 hS)) ?_
   refine zdv 5 (fun _ => xmv) ?_
   refine zdv 6 (fun _ => (xix (kk := i) sl_23 hT.C.row.slh)) ?_
   refine zdla 7 (fun w hS => (xlr (u := (vv i)) pl_22 (hT.C.row.below hS.below))) ?_
   refine zda 2 (xl0 (c := ints (fun _ => 0)) sl_22 hS) ?_; rintro v5 w ⟨hS, hv5⟩
   replace hS := hS.n8
   refine ⟨⟨fun _ => hS.pk [0, 1, 4], hS.pk [0, 1]⟩, ?_⟩
   refine zda 8 (xap 7 (r := (t.ln i)) (f := ints (cat 0 (fun _ => 0) (t.C i))) sl_22 el_3 hS ((hT.C.p i (by omega) (by omega)).below hS.below) (by exact cat_ints1 _ _ _)) ?_; rintro v6 w ⟨hS, hv6⟩
   replace hS := hS.n8
   refine ⟨⟨fun _ => hS.pk [0, 1, 4], hS.pk [0, 1]⟩, ?_⟩
   refine zda 9 (xli (n := 1) (len := 1) (pv := [(0, v6)]) (cs := [v6]) (c := (fun _ => v6)) sl_23 el_22 hS (hf := by obtain ⟨_, _, _, _, rfl, _⟩ := hv6; kernel_rfl)) ?_; rintro v7 w ⟨hS, hv7⟩
   replace hS := hS.n9
   refine ⟨⟨fun _ => hS.pk [0, 1, 4], hS.pk [0, 1]⟩, ?_⟩
   refine zda 10 (xap 5 (r := nC + 1) sl_23 el_22 hS (hS.rowN 8 rfl) (cat_gsn _ _ _) (h1 := fun _ _ _ => hv6.one)) ?_; rintro v8 w ⟨hS, hv8⟩
   replace hS := hS.n9
   replace hS := Sat.merge (l1 := [_, _, _, _, _, _]) (l2 := []) (l3 := [_]) hS (by omega)
   have hrs2 := fun k (k0 : 0 ≤ k) (k1 : k < nC + 1) => hS.slhIn 6 rfl k0 k1
   replace hS := hS.n8
   refine ⟨⟨fun _ => hS.pk [0, 1, 4], hS.pk [0, 1]⟩, ?_⟩
   refine zdv 11 (fun _ => (xfb 4 fd_25_4)) ?_
   refine zde 12 (xsb 4 pl_23 hS (hv := hv8.one)) ?_; clear hS; rintro w hS
   replace hS := hS.n8
   refine ⟨⟨fun h => absurd h (by decide), hS.pk [0, 1]⟩, ?_⟩
   refine zdd <| zbn <| ztn <| zrg ?_
   refine zlv xmv ?_
   refine zlv (xadd (r := i + 1)) ?_
   replace hS := hS.rerows (vv' := gsn wv nC v6) (ln' := t.ln) (f' := t.C) 6 rfl (fun k k0 k1 => by
     by_cases e : k < i
     · exact ⟨rfl, gsn_lt (by omega), fun j _ _ => by rw [gsn_lt (by omega)]⟩
     · have hki : k = i := by omega
       refine ⟨rfl, ?_, fun b b0 b1 => ?_⟩
       · rw [gsn_at (by omega), hki]; try omega
       · rw [gsn_at (by omega), hki]; unfold cat; rw [if_neg (by omega), Int.sub_zero])
   replace hS := hS.n8
   have hrs2x := fun k (k0 : 0 ≤ k) (k1 : k < nC + 1) => hS.slhIn 6 rfl k0 k1
   refine zlv xas ?_
   refine zln <| zlq ⟨nC + 1, gsn wv nC v6, i + 1, v8, rfl, (by omega), (by omega), (by omega), ?_, rfl, hS.pk [0, 1, 2, 3, 4, 5, 6]⟩
   ·
    exact hv8
  refine zxt <| ztx <| ztx <| zbh <| ztn <| zsr ?_
  refine zlv (xls 4 st_25 hS) ?_
  refine zle (xsw 1 st_25 hS (hd := (ones_cons rfl (ones_cons rfl (ones_cons hv2.one (ones_cons hv4.one (ones_cons hwC.one ones_nil))))))) ?_; clear hS; rintro w hS
  replace hS := hS.n7
  refine zlt <| zrt <| zfc 1 st_25 hS ⟨_, rfl, ?_⟩
  obtain rfl : i = t.nc := by omega
  replace hS := hS.recont 2 rfl (d := ints t.B) (fun k k0 k1 => by unfold ints cat; rw [if_neg (by omega), Int.sub_zero])
  replace hS := hS.recont 3 rfl (d := ints t.F) (fun k k0 k1 => by unfold ints cat; rw [if_neg (by omega), Int.sub_zero])
  subst hnC
  exact ⟨_, _, _, _, rfl, hv2, hv4, hwC, hS.pk [2, 3, 5, 6]⟩

set_option maxRecDepth 20000 in
theorem c_rOptimize {vB vF vC : Value} {vv : Int → Value} {t : Tb} (w0 : World) (hT : TAt w0 vB vF vC vv t) :
    Calls Try.prog 74 [.agg #[.int .i64 t.vars, .int .i64 t.den, vB, vF, vC]].toArray w0 fun e w => ∃ v, e = .returned v ∧ ∃ vB vF vC vv t' e, v = .tuple #[.agg #[.int .i64 t'.vars, .int .i64 t'.den, vB, vF, vC], .int .i64 e] ∧ OptR t t' e ∧ Slh vB t'.nb ∧ Slh vF t'.nf ∧ Slh vC t'.nc ∧ Sat w0 w [.own vB 1 3 t'.nb (ints t'.B), .own vF 1 3 t'.nf (ints t'.F), .own vC 1 22 t'.nc vv, .sem (Frame.rows 3 t'.nc vv t'.ln t'.C)] := by
  refine zenG Try.func74 Try.ntmps74 fun w hS => ?_
  refine zsr ?_
  refine zla (xbx (cs := [_, _, _, _, _]) hS) ?_; rintro _ w ⟨g1, rfl, hS⟩
  replace hS := hS.n1
  refine zla (xal (cs := [_, _, _, _, _]) el_25 hS) ?_; rintro _ w ⟨g2, rfl, hS⟩
  replace hS := hS.n2
  refine zlv xas ?_
  refine zlz ?_
  refine zlv (xls 0 st_25 hS) ?_
  refine zlc (xc0 cl_110) (c_rrun (t := t) w (hT.below hS.below)) ?_; rintro _ w ⟨xBu1, xFu1, xCu1, xvu1, uu1, zuu1, euu1, rfl, hrunu1, hzzu1, hxBu1, hxFu1, hxCu1, hS'⟩
  replace hS : Sat w0 w [.blk g1 [.int .i64 t.vars, .int .i64 t.den, vB, vF, vC], .blk g2 [.int .i64 0, .int .i64 0, .slice none 0 0, .slice none 0 0, .slice none 0 0], .sem (Frame.alt (uu1 = t ∧ xBu1 = vB ∧ xFu1 = vF ∧ xCu1 = vC ∧ xvu1 = vv) (Frame.bun [.own xBu1 1 3 uu1.nb (ints uu1.B), .own xFu1 1 3 uu1.nf (ints uu1.F), .own xCu1 1 22 uu1.nc xvu1, .sem (Frame.rows 3 uu1.nc xvu1 uu1.ln uu1.C)]))] := hS.comp hS'; clear hS'
  have hxru1 := fun k (k0 : 0 ≤ k) (k1 : k < uu1.nc) => ((tat_alt (hT.below hS.below) hS 2 rfl).C.p k k0 k1).slh
  refine zs3 ?_
  refine zla (xal (cs := [_, _, _, _, _]) el_25 hS) ?_; rintro _ w ⟨g3, rfl, hS⟩
  replace hS := hS.n4
  refine zle (xsw 3 st_25 hS (hd := (ones_cons rfl (ones_cons rfl (ones_cons hxBu1.one (ones_cons hxFu1.one (ones_cons hxCu1.one ones_nil))))))) ?_; clear hS; rintro w hS
  replace hS := hS.n4
  refine zlv xas ?_
  refine zlt <| zsq <| zsr ?_
  refine zs2 ?_
  refine zlt ?_
  refine zcif ?_ ?_ <;> intro hc
  ·
   refine zsr ?_
   refine zlv (xany (v := .agg #[.int .i64 0, .int .i64 0, .slice none 0 0, .slice none 0 0, .slice none 0 0])) ?_
   refine zlv xmv ?_
   refine zle (xsw 1 st_25 hS) ?_; clear hS; rintro w hS
   replace hS := hS.n4
   refine zlv xas ?_
   refine zlt <| zrt <| ztr <| zfct 1 st_25 hS ⟨_, rfl, ?_⟩
   exact ⟨_, _, _, fun _ => undef, Tb.zero, _, rfl, ⟨_, _, hrunu1, .inr ⟨by omega, rfl, rfl⟩⟩, slh_nil, slh_nil, slh_nil, ((((hS.sub (.cons _ (.cons _ (.cons _ (.cons _ .slnil))))).addnil 1 3 (ints Tb.zero.B)).addnil 1 3 (ints Tb.zero.F)).addnil 1 22 (fun _ => undef)).addrows 3 (fun _ => undef) Tb.zero.ln Tb.zero.C⟩
  refine zsk <| ztn <| zsr ?_
  refine zlv (xls 3 st_25 hS) ?_
  have hzq := hzzu1 (.inl (by omega)); rw [hzq] at hrunu1
  obtain ⟨hp, _, _, _⟩ := hrunu1.fin (.inl (by omega))
  have b1 := hp.n1
  have b2 := hp.n2
  have b3 := hp.m2
  have b4 := hp.v
  have b5 := hp.d1
  have b6 := hp.d2
  have b7 := hp.c
  refine zlc (xc0 cl_66) (c_copy (t := uu1) w (tat_alt (hT.below hS.below) hS 2 rfl) hp) ?_; rintro _ w ⟨yBc1, yFc1, yCc1, yvc1, rfl, hyBc1, hyFc1, hyCc1, hS'⟩
  replace hS : Sat w0 w [.blk g1 [.int .i64 t.vars, .int .i64 t.den, vB, vF, vC], .blk g2 [.int .i64 0, .int .i64 0, .slice none 0 0, .slice none 0 0, .slice none 0 0], .sem (Frame.alt (uu1 = t ∧ xBu1 = vB ∧ xFu1 = vF ∧ xCu1 = vC ∧ xvu1 = vv) (Frame.bun [.own xBu1 1 3 uu1.nb (ints uu1.B), .own xFu1 1 3 uu1.nf (ints uu1.F), .own xCu1 1 22 uu1.nc xvu1, .sem (Frame.rows 3 uu1.nc xvu1 uu1.ln uu1.C)])), .blk g3 [.int .i64 uu1.vars, .int .i64 uu1.den, xBu1, xFu1, xCu1], .own yBc1 1 3 uu1.nb (ints uu1.B), .own yFc1 1 3 uu1.nf (ints uu1.F), .own yCc1 1 22 uu1.nc yvc1, .sem (Frame.rows 3 uu1.nc yvc1 uu1.ln uu1.C)] := hS.comp hS'; clear hS'
  have hyrc1 := fun k (k0 : 0 ≤ k) (k1 : k < uu1.nc) => hS.slhIn 7 rfl k0 k1
  refine zle (xsw 1 st_25 hS (hd := (ones_cons rfl (ones_cons rfl (ones_cons hyBc1.one (ones_cons hyFc1.one (ones_cons hyCc1.one ones_nil))))))) ?_; clear hS; rintro w hS
  replace hS := hS.n8
  refine zlv xas ?_
  refine zlt <| zrt <| zfct 1 st_25 hS ⟨_, rfl, ?_⟩
  have he0 : euu1 = 0 := by omega
  rw [he0] at hrunu1
  exact ⟨_, _, _, _, uu1, 0, rfl, ⟨_, _, hrunu1, .inl ⟨rfl, rfl, rfl⟩⟩, hyBc1, hyFc1, hyCc1, hS.pk [4, 5, 6, 7]⟩

set_option maxRecDepth 20000 in
theorem c_rstart {vc vA vb : Value} {vq : Int → Value} {p : Lp} (w0 : World) (hL : LAt w0 vc vA vb vq p) :
    Calls Try.prog 73 [.agg #[vc, vA, vb]].toArray w0 fun e w => ∃ v, e = .returned v ∧ ∃ vB vF vC vv t' e, v = .tuple #[.agg #[.int .i64 t'.vars, .int .i64 t'.den, vB, vF, vC], .int .i64 e] ∧ StartR p t' e ∧ Slh vB t'.nb ∧ Slh vF t'.nf ∧ Slh vC t'.nc ∧ Sat w0 w [.own vB 1 3 t'.nb (ints t'.B), .own vF 1 3 t'.nf (ints t'.F), .own vC 1 22 t'.nc vv, .sem (Frame.rows 3 t'.nc vv t'.ln t'.C)] := by
  have hn := hL.c.slh.n0; have hn1 := hL.c.slh.n1; have hm := hL.A.row.slh.n0; have hm1 := hL.A.row.slh.n1; have hk := hL.b.slh.n0; have hk1 := hL.b.slh.n1
  refine zenG Try.func73 Try.ntmps73 fun w hS => ?_
  refine zsr ?_
  refine zla (xbx (cs := [_, _, _]) hS) ?_; rintro _ w ⟨g1, rfl, hS⟩
  replace hS := hS.n1
  refine zla (xal (cs := [_, _, _, _, _]) el_25 hS) ?_; rintro _ w ⟨g2, rfl, hS⟩
  replace hS := hS.n2
  refine zlv xas ?_
  refine zlt <| zsq <| zsr ?_
  refine zlv (xls 0 st_44 hS) ?_
  refine zlc (xc0 cl_25) (c_rvalid (p := p) w (hL.below hS.below)) ?_; rintro _ w ⟨rfl, hS'⟩
  replace hS := hS.cmp hS'; clear hS'
  refine zlv xnot ?_
  refine zlt ?_
  refine zcif ?_ ?_ <;> intro hc
  ·
   refine zsr ?_
   refine zlv (xany (v := .agg #[.int .i64 0, .int .i64 0, .slice none 0 0, .slice none 0 0, .slice none 0 0])) ?_
   refine zle (xsw 1 st_25 hS) ?_; clear hS; rintro w hS
   replace hS := hS.n2
   refine zlv xas ?_
   refine zlt <| zrt <| ztr <| zfct 1 st_25 hS ⟨_, rfl, ?_⟩
   exact ⟨_, _, _, fun _ => undef, Tb.zero, 1, rfl, .inl ⟨‹_›, rfl, rfl⟩, slh_nil, slh_nil, slh_nil, ((((hS.sub (.cons _ (.cons _ .slnil))).addnil 1 3 (ints Tb.zero.B)).addnil 1 3 (ints Tb.zero.F)).addnil 1 22 (fun _ => undef)).addrows 3 (fun _ => undef) Tb.zero.ln Tb.zero.C⟩
  refine zsk <| ztn <| zsr ?_
  refine zlv (xfb 0 fd_44_0) ?_
  have hl : LOk p := by first | assumption | exact Classical.not_not.1 ‹¬ ¬ (LOk p)›
  have b1 := hl.n1
  have b2 := hl.n2
  have b3 := hl.m2
  have b4 := hl.k
  refine zlv (xlb 0 pl_22 hS) ?_
  refine zlv (xln sl_22 hL.c.slh) ?_
  refine zlv xas ?_
  refine zlz ?_
  refine zlv xmv ?_
  refine zla (xli (n := 1) (len := 1) (pv := [(0, .int .i64 0)]) (cs := [.int .i64 0]) (c := ints (fun _ => 0)) sl_22 el_3 hS) ?_; rintro v1 w ⟨hS, hv1⟩
  replace hS := hS.n3
  refine zlv (xfb 0 fd_44_0) ?_
  refine zlv (xlb 0 pl_22 hS) ?_
  refine zla (xap 2 (r := p.n + 1) (f := ints (cat 1 (fun _ => 0) p.c)) sl_22 el_3 hS (hL.c.below hS.below) (by exact cat_ints1 _ _ _)) ?_; rintro v2 w ⟨hS, hv2⟩
  replace hS := hS.n3
  refine zla (xli (n := 1) (len := 1) (pv := [(0, v2)]) (cs := [v2]) (c := (fun _ => v2)) sl_23 el_22 hS (hf := by obtain ⟨_, _, _, _, rfl, _⟩ := hv2; kernel_rfl)) ?_; rintro v3 w ⟨hS, hv3⟩
  replace hS := hS.n4
  refine zlv (xany (v := .agg #[.int .i64 p.n, .int .i64 1, .slice none 0 0, .slice none 0 0, v3]) (hr := by obtain ⟨_, _, _, _, rfl, _⟩ := hv3; kernel_rfl)) ?_
  refine zla (xal (cs := [_, _, _, _, _]) el_25 hS) ?_; rintro _ w ⟨g3, rfl, hS⟩
  replace hS := hS.n5
  refine zle (xsw 4 st_25 hS (hd := (ones_cons rfl (ones_cons rfl (ones_cons rfl (ones_cons rfl (ones_cons hv3.one ones_nil))))))) ?_; clear hS; rintro w hS
  replace hS := hS.n5
  refine zlt <| zsq <| zsr ?_
  refine zlv xas ?_
  refine zlt <| zbk ?_
  replace hS := hS.addrows 3 (fun _ => Value.slice none 0 0) (fun _ => 0) (fun _ _ => 0)
  replace hS := hS.n6
  replace hS := Sat.merge2 (l1 := [.blk g1 [vc, vA, vb], .blk g2 [.int .i64 0, .int .i64 0, .slice none 0 0, .slice none 0 0, .slice none 0 0]]) (l2 := [.own v3 1 22 1 (fun _ => v2), .blk g3 [.int .i64 p.n, .int .i64 1, .slice none 0 0, .slice none 0 0, v3]]) (l3 := []) hS (by omega)
  replace hS := hS.rerows (vv' := (fun _ => v2)) (ln' := (startT p).ln) (f' := (startT p).C) 4 rfl (fun k k0 k1 => by
    obtain rfl : k = 0 := by omega
    refine ⟨gsn_self _ _ _, ?_, fun j j0 j1 => ?_⟩
    · rw [gsn_self]; show _ = p.n + 1; omega
    · rw [gsn_self]; unfold startT cat; dsimp only; (repeat' split) <;> first | rfl | omega)
  replace hS := hS.n5
  have hrs0 := fun k (k0 : 0 ≤ k) (k1 : k < 1) => hS.slhIn 4 rfl k0 k1
  replace hS := hS.addnil 1 3 (ints (fun _ => 0))
  replace hS := hS.n6
  replace hS := hS.addnil 1 3 (ints (fun _ => 0))
  replace hS := hS.n7
  refine zlp (fun mm M w => ∃ (nF : Int) (j : Int) (wF : Value) (fF : Int → Int), mm = ((p.n - j).toNat) ∧ (0 ≤ j) ∧ (j ≤ p.n) ∧ (nF = j) ∧ (∀ k, 0 ≤ k → k < j → fF k = k) ∧ (Slh wF nF) ∧ M = [(1, .pointer (some ⟨g1, 0, none⟩)), (2, .pointer (some ⟨g2, 0, none⟩)), (3, .int .i64 0), (4, .int .i64 p.n), (5, .pointer (some ⟨g3, 0, none⟩)), (6, .int .i64 j)] ∧ Sat w0 w [.blk g1 [vc, vA, vb], .blk g2 [.int .i64 0, .int .i64 0, .slice none 0 0, .slice none 0 0, .slice none 0 0], .own v3 1 22 1 (fun _ => v2), .blk g3 [.int .i64 p.n, .int .i64 1, (.slice none 0 0), wF, v3], .sem (Frame.rows 3 1 (fun _ => v2) ((startT p).ln) ((startT p).C)), .own wF 1 3 nF (ints fF), .own (.slice none 0 0) 1 3 0 (ints (fun _ => 0))]) ⟨0, 0, (.slice none 0 0), (fun _ => 0), rfl, (by omega), (by omega), (by omega), ?_, ?_, rfl, hS⟩ ?_
  ·
   intro k k0 k1; omega
  ·
   exact slh_nil
  clear hS w
  rintro mm M w ⟨nF, j, wF, fF, rfl, j0, j1, hnF, hfF, hwF, rfl, hS⟩
  refine zsq <| zsr ?_
  refine zs3 ?_
  refine zlt ?_
  refine zcif ?_ ?_ <;> intro hc
  ·
   refine zsk <| ztn <| zsq <| zbk <| zrg ?_
   refine zlv (xfb 3 fd_25_3) ?_
   refine zlv (xlb 3 pl_22 hS) ?_
   refine zlv xmv ?_
   refine zla (xli (n := 1) (len := 1) (pv := [(0, .int .i64 j)]) (cs := [.int .i64 j]) (c := ints (fun _ => j)) sl_22 el_3 hS) ?_; rintro v4 w ⟨hS, hv4⟩
   replace hS := hS.n8
   refine zla (xap 5 (r := nF + 1) sl_22 el_3 hS (hS.rowN 7 rfl) (cat_snoc _ _ _)) ?_; rintro v5 w ⟨hS, hv5⟩
   replace hS := hS.n8
   refine zlv (xfb 3 fd_25_3) ?_
   refine zle (xsb 3 pl_22 hS (hv := hv5.one)) ?_; clear hS; rintro w hS
   replace hS := hS.n8
   refine zln <| zbn <| ztn <| zrg ?_
   refine zlv xmv ?_
   refine zlv (xadd (r := j + 1)) ?_
   refine zlv xas ?_
   refine zln <| zlq ⟨nF + 1, j + 1, v5, (snoc fF nF j), rfl, (by omega), (by omega), (by omega), ?_, ?_, rfl, hS.pk [0, 1, 2, 3, 4, 5, 6]⟩
   ·
    intro k k0 k1; by_cases e : k < nF
    · rw [snoc_lt e]; exact hfF k k0 (by omega)
    · rw [snoc_at e]; omega
   ·
    exact hv5
  refine zxt <| ztx <| ztx <| zbh <| ztn <| zsq <| zsr ?_
  refine zlv xas ?_
  refine zlt <| zbk <| zlp (fun mm M w => ∃ (mB : Int) (nC : Int) (wv : Int → Value) (i : Int) (wB : Value) (fB : Int → Int) (wC : Value), mm = ((p.m - i).toNat) ∧ (0 ≤ i) ∧ (i ≤ p.m) ∧ (mB = i) ∧ (nC = i + 1) ∧ (∀ k, 0 ≤ k → k < i → fB k = p.n + k) ∧ (Slh wB mB) ∧ (Slh wC nC) ∧ M = [(1, .pointer (some ⟨g1, 0, none⟩)), (2, .pointer (some ⟨g2, 0, none⟩)), (3, .int .i64 0), (4, .int .i64 p.n), (5, .pointer (some ⟨g3, 0, none⟩)), (7, .int .i64 i)] ∧ Sat w0 w [.blk g1 [vc, vA, vb], .blk g2 [.int .i64 0, .int .i64 0, .slice none 0 0, .slice none 0 0, .slice none 0 0], .own wC 1 22 nC wv, .blk g3 [.int .i64 p.n, .int .i64 1, wB, wF, wC], .sem (Frame.rows 3 nC wv ((startT p).ln) ((startT p).C)), .own wF 1 3 nF (ints fF), .own wB 1 3 mB (ints fB)]) ⟨0, 1, (fun _ => v2), 0, (.slice none 0 0), (fun _ => 0), v3, rfl, (by omega), (by omega), (by omega), (by omega), ?_, ?_, ?_, rfl, hS⟩ ?_
  ·
   intro k k0 k1; omega
  ·
   exact slh_nil
  ·
   exact hv3
  clear hS w
  rintro mm M w ⟨mB, nC, wv, i, wB, fB, wC, rfl, i0, i1, hmB, hnC, hfB, hwB, hwC, rfl, hS⟩
  have hrs1 := fun k (k0 : 0 ≤ k) (k1 : k < nC) => hS.slhIn 4 rfl k0 k1
  refine zsq <| zsr ?_
  refine zlv xmv ?_
  refine zlv (xfb 1 fd_44_1) ?_
  refine zlv (xlb 0 pl_23 hS) ?_
  refine zlv (xln sl_23 hL.A.row.slh) ?_
  refine zlv xlss ?_
  refine zlt ?_
  refine zcif ?_ ?_ <;> intro hc
  ·
   refine zsk <| ztn <| zsq <| zbk <| zsr ?_
   refine zlv (xfb 2 fd_25_2) ?_
   refine zlv (xlb 3 pl_22 hS) ?_
   refine zs2 ?_
   refine zlv (xadd (r := p.n + i)) ?_
   refine zla (xli (n := 1) (len := 1) (pv := [(0, .int .i64 (p.n + i))]) (cs := [.int .i64 (p.n + i)]) (c := ints (fun _ => p.n + i)) sl_22 el_3 hS) ?_; rintro v6 w ⟨hS, hv6⟩
   replace hS := hS.n8
   refine zla (xap 6 (r := mB + 1) sl_22 el_3 hS (hS.rowN 7 rfl) (cat_snoc _ _ _)) ?_; rintro v7 w ⟨hS, hv7⟩
   replace hS := hS.n8
   refine zlv (xfb 2 fd_25_2) ?_
   refine zle (xsb 3 pl_22 hS (hv := hv7.one)) ?_; clear hS; rintro w hS
   replace hS := hS.n8
   refine zlt ?_
   refine zdst [0, 1, 3] [0, 1] 18 mx_ hS ?_; clear hS; intro w hS
   refine zdv 0 (fun _ => (xfb 4 fd_25_4)) ?_
   have hri := hl.rows i i0 (by omega)
   refine zdl 1 (fun w hS => (xlb 2 pl_23 hS)) ?_
   refine zdv 2 (fun _ => (xfb 2 fd_44_2)) ?_
   refine zdla 3 (fun w hS => (xlb 0 pl_22 hS)) ?_
   refine zdv 4 (fun _ => xmv) ?_
   refine zdv 5 (fun _ => (xix (kk := i) sl_22 hL.b.slh)) ?_
   refine zdla 6 (fun w hS => (xlr (u := .int .i64 (p.b i)) pl_3 (hL.b.below hS.below))) ?_
   have hbi := hl.b i i0 (by omega)
   refine zdv 7 (fun _ => (xneg (r := -((p.b i))))) ?_
   refine zdv 9 (fun _ => (xfb 1 fd_44_1)) ?_
   refine zdla 10 (fun w hS => (xlb 0 pl_23 hS)) ?_
   refine zdv 11 (fun _ => xmv) ?_
   refine zdv 12 (fun _ => (xix (kk := i) sl_23 hL.A.row.slh)) ?_
   refine zdla 13 (fun w hS => (xlr (u := (vq i)) pl_22 (hL.A.row.below hS.below))) ?_
   refine zda 8 (xli (n := 1) (len := 1) (pv := [(0, .int .i64 (-((p.b i))))]) (cs := [.int .i64 (-((p.b i)))]) (c := ints (fun _ => -((p.b i)))) sl_22 el_3 hS) ?_; rintro v8 w ⟨hS, hv8⟩
   replace hS := hS.n9
   refine ⟨⟨fun _ => hS.pk [0, 1, 3], hS.pk [0, 1]⟩, ?_⟩
   refine zda 14 (xap 8 (r := (p.ln i) + 1) (f := ints (cat 1 (fun _ => -(p.b i)) (p.A i))) sl_22 el_3 hS ((hL.A.p i (by omega) (by omega)).below hS.below) (by exact cat_ints1 _ _ _)) ?_; rintro v9 w ⟨hS, hv9⟩
   replace hS := hS.n9
   refine ⟨⟨fun _ => hS.pk [0, 1, 3], hS.pk [0, 1]⟩, ?_⟩
   refine zda 15 (xli (n := 1) (len := 1) (pv := [(0, v9)]) (cs := [v9]) (c := (fun _ => v9)) sl_23 el_22 hS (hf := by obtain ⟨_, _, _, _, rfl, _⟩ := hv9; kernel_rfl)) ?_; rintro v10 w ⟨hS, hv10⟩
   replace hS := hS.n10
   refine ⟨⟨fun _ => hS.pk [0, 1, 3], hS.pk [0, 1]⟩, ?_⟩
   refine zda 16 (xap 2 (r := nC + 1) sl_23 el_22 hS (hS.rowN 9 rfl) (cat_gsn _ _ _) (h1 := fun _ _ _ => hv9.one)) ?_; rintro v11 w ⟨hS, hv11⟩
   replace hS := hS.n10
   replace hS := Sat.merge (l1 := [_, _, _, _]) (l2 := [_, _, _]) (l3 := [_]) hS (by omega)
   have hrs2 := fun k (k0 : 0 ≤ k) (k1 : k < nC + 1) => hS.slhIn 4 rfl k0 k1
   replace hS := hS.n9
   refine ⟨⟨fun _ => hS.pk [0, 1, 3], hS.pk [0, 1]⟩, ?_⟩
   refine zdv 17 (fun _ => (xfb 4 fd_25_4)) ?_
   refine zde 18 (xsb 3 pl_23 hS (hv := hv11.one)) ?_; clear hS; rintro w hS
   replace hS := hS.n9
   refine ⟨⟨fun h => absurd h (by decide), hS.pk [0, 1]⟩, ?_⟩
   refine zdd <| zbn <| ztn <| zrg ?_
   refine zlv xmv ?_
   replace hS := hS.rerows (vv' := gsn wv nC v9) (ln' := (startT p).ln) (f' := (startT p).C) 4 rfl (fun k k0 k1 => by
     by_cases e : k < i + 1
     · exact ⟨rfl, gsn_lt (by omega), fun j _ _ => by rw [gsn_lt (by omega)]⟩
     · have hki : k = i + 1 := by omega
       refine ⟨rfl, ?_, fun j j0 j1 => ?_⟩
       · rw [gsn_at (by omega)]; show _ = p.n + 1; omega
       · rw [gsn_at (by omega)]; unfold startT cat; dsimp only; (repeat' split) <;> first | rfl | omega | (congr 2; omega) | (congr 1; omega))
   replace hS := hS.n9
   have hrs2x := fun k (k0 : 0 ≤ k) (k1 : k < nC + 1) => hS.slhIn 4 rfl k0 k1
   refine zlv (xadd (r := i + 1)) ?_
   refine zlv xas ?_
   refine zln <| zlq ⟨mB + 1, nC + 1, gsn wv nC v9, i + 1, v7, (snoc fB mB (p.n + i)), v11, rfl, (by omega), (by omega), (by omega), (by omega), ?_, ?_, ?_, rfl, hS.pk [0, 1, 2, 3, 4, 5, 6]⟩
   ·
    intro k k0 k1; by_cases e : k < mB
    · rw [snoc_lt e]; exact hfB k k0 (by omega)
    · rw [snoc_at e]; omega
   ·
    exact hv7
   ·
    exact hv11
  refine zxt <| ztx <| ztx <| zbh <| ztn <| zsr ?_
  refine zlv (xls 3 st_25 hS) ?_
  refine zle (xsw 1 st_25 hS (hd := (ones_cons rfl (ones_cons rfl (ones_cons hwB.one (ones_cons hwF.one (ones_cons hwC.one ones_nil))))))) ?_; clear hS; rintro w hS
  replace hS := hS.n7
  refine zlv xas ?_
  refine zlt <| zrt <| zfct 1 st_25 hS ⟨_, rfl, ?_⟩
  obtain rfl : i = p.m := by omega
  obtain rfl : mB = p.m := by omega
  obtain rfl : nC = p.m + 1 := by omega
  obtain rfl : nF = p.n := by omega
  replace hS := hS.recont 6 rfl (d := ints (startT p).B) (fun k k0 k1 => by unfold ints; rw [hfB k k0 (by simp at k1; omega)]; rfl)
  replace hS := hS.recont 5 rfl (d := ints (startT p).F) (fun k k0 k1 => by unfold ints; rw [hfF k k0 (by simp at k1; omega)]; rfl)
  exact ⟨_, _, _, _, startT p, 0, rfl, .inr ⟨hl, rfl, rfl⟩, hwB, hwF, hwC, (hS.pk [2, 4, 5, 6]).perm (perm_step (l1 := [_, _, _]) (l2 := []) (perm_step (l1 := [_, _]) (l2 := []) (List.Perm.refl _)))⟩

end Go.Proofs.Ytelfplepnodbgaa
