/- The walks of rounds, of gomory. -/
import Derived.Test.YtelfplepnodbgaaGc
import Derived.Test.YtelfplepnodbgaaX3
import Derived.Test.YtelfplepnodbgaaGh
namespace Go.Proofs.Ytelfplepnodbgaa
open Go Go.RowKit Go.Proofs.Gw
set_option linter.unusedVariables false

theorem cl_16 : calledT Try.prog 16 = true := by kernel_rfl
theorem cl_20 : calledT Try.prog 20 = true := by kernel_rfl
theorem cl_28 : calledT Try.prog 28 = true := by kernel_rfl
/-- What a round yields: an optimal tableau (and the slices that hold it), whether there is a fraction in it, an error. -/
structure GX where
  t : Tb
  vB : Value
  vF : Value
  vC : Value
  vv : Int → Value
  fr : Prop
  e : Int
/-- Behind rounds that yielded the optimal tableaux us, one more cut behind each, the tableau t and the error e are at hand. -/
inductive Rn (p : Lp) : List Tb → Tb → Int → Prop
  | start {t : Tb} {e : Int} (h : StartR p t e) : Rn p [] t e
  | cut {us : List Tb} {t u t' : Tb} {e' : Int} (h : Rn p us t 0) (ho : OptR t u 0) (hp : TPrp u) (hf : 0 ≤ gfr u u.nb.toNat) (ha : AddR u (gfr u u.nb.toNat) t' e') : Rn p (us ++ [u]) t' e'
def GOk (s : List GX) : Prop := ∀ y ∈ s, y.fr ∧ y.e = 0
def GPre (p : Lp) (s : List GX) (x : GX) (rest : Gw.Frame) : Prop := ∃ t e, Rn p (s.map GX.t) t e ∧ GOk s ∧ Slh x.vB x.t.nb ∧ Slh x.vF x.t.nf ∧ Slh x.vC x.t.nc ∧
  ((x.e ≠ 0 ∧ ¬ x.fr ∧ ((e = x.e ∧ e ≠ 0) ∨ (e = 0 ∧ ∃ u, OptR t u x.e))) ∨
   (x.e = 0 ∧ e = 0 ∧ OptR t x.t 0 ∧ TPrp x.t ∧ (x.fr ↔ 0 ≤ gfr x.t x.t.nb.toNat) ∧ ∀ w, rest.holds w → TAt w x.vB x.vF x.vC x.vv x.t))
def GFin (p : Lp) (Kx : GX → Prop) (s : List GX) (rest : Gw.Frame) : Prop := ∃ s' x, s = s' ++ [x] ∧ Kx x ∧ GPre p s' x rest ∧ ¬ x.fr
theorem OptR.prp {t u : Tb} (h : OptR t u 0) : TPrp u ∧ u.nb = t.nb := by
  obtain ⟨u', f, hr, ⟨hf, _, rfl⟩ | ⟨hf, he, _⟩⟩ := h
  · subst hf; exact ⟨(hr.fin (.inl rfl)).1, hr.dims.1⟩
  · exact absurd he.symm hf
theorem tat_of {w : World} {l : List Ent} {vB vF vC : Value} {vv : Int → Value} {t : Tb} {E1 E2 E3 E4 : TypeId} (h : (Frame.bun l).holds w) (h1 : Ent.own vB 1 E1 t.nb (ints t.B) ∈ l) (h2 : Ent.own vF 1 E2 t.nf (ints t.F) ∈ l) (h3 : Ent.own vC 1 E3 t.nc vv ∈ l) (h4 : Ent.sem (Frame.rows E4 t.nc vv t.ln t.C) ∈ l) : TAt w vB vF vC vv t :=
  have h5 := h.1 _ h4
  ⟨(h.1 _ h1).row, (h.1 _ h2).row, (h.1 _ h3).row, fun k k0 k1 => (h5.1 k k0 k1).row, fun k k0 k1 => (h5.1 k k0 k1).roomy⟩

set_option maxRecDepth 20000 in
theorem c_rounds1 {vc vA vb : Value} {vq : Int → Value} {p : Lp} {gp : Nat} {St Tt : Type} (hist : St → List GX) (s0 : St) (hs0 : hist s0 = []) (Kx : GX → Prop) (Sx : St → GX → Tt → Prop) (w0 : World) (hL : LAt w0 vc vA vb vq p) : ItC (St := St) (X := GX) (Tt := Tt) Try.prog w0 109 [.pointer (some ⟨gp, 0, none⟩)] [.blk gp [vc, vA, vb]] (fun x => [.agg #[.int .i64 x.t.vars, .int .i64 x.t.den, x.vB, x.vF, x.vC, B x.fr, .int .i64 x.e]]) (fun s x rest => GPre p (hist s) x rest) (fun s x s1 => hist s1 = hist s ++ [x] ∧ Kx x) (Sx) (s0) (fun s rest => GFin p Kx (hist s) rest) (fun t rest => ∃ s x, Sx s x t ∧ GPre p (hist s) x rest) := by
  intro l C D w hS hY
  have hn := hL.c.slh.n0; have hn1 := hL.c.slh.n1; have hm := hL.A.row.slh.n0; have hm1 := hL.A.row.slh.n1; have hk := hL.b.slh.n0; have hk1 := hL.b.slh.n1
  refine henI Try.func109 Try.ntmps109 ?_
  refine hsq <| hrz ?_
  refine zlv (xls 1 st_48 hS) ?_
  refine zlc (xc0 cl_26) (c_start (p := p) w (hL.below hS.below)) ?_; rintro _ w ⟨vBk1, vFk1, vCk1, vvk1, tk1, ek1, rfl, hstk1, hsBk1, hsFk1, hsCk1, hS'⟩
  replace hS : Sat w0 w [.sem (C s0), .blk gp [vc, vA, vb], .own vBk1 1 3 tk1.nb (ints tk1.B), .own vFk1 1 3 tk1.nf (ints tk1.F), .own vCk1 1 22 tk1.nc vvk1, .sem (Frame.rows 3 tk1.nc vvk1 tk1.ln tk1.C)] := hS.comp hS'; clear hS'
  have hrsk1 := fun k (k0 : 0 ≤ k) (k1 : k < tk1.nc) => hS.slhIn 5 rfl k0 k1
  refine zlv xmv ?_
  iterate 2 refine zlv xex ?_
  refine zla (xal (cs := [_, _, _, _, _]) el_28 hS) ?_; rintro _ w ⟨g1, rfl, hS⟩
  replace hS : Sat w0 w [_, .blk _ [_, _, _], _, _, _, _, .blk _ [_, _, _, _, _]] := hS
  refine zle (xsw 6 st_28 hS (hd := (ones_cons rfl (ones_cons rfl (ones_cons hsBk1.one (ones_cons hsFk1.one (ones_cons hsCk1.one ones_nil))))))) ?_; clear hS; rintro w hS
  replace hS : Sat w0 w [_, .blk _ [_, _, _], _, _, _, _, .blk _ [_, _, _, _, _]] := hS
  refine zlv xas ?_
  refine zln <| zh <| htn <| hbk <| hlp (fun mm M w => ∃ (s : St) (t : Tb) (vB : Value) (vF : Value) (vC : Value) (vv : Int → Value) (e : Int), mm = (if e = 0 then (20 - t.nb).toNat else 0) ∧ (Rn p ((hist s).map GX.t) t e) ∧ (GOk (hist s)) ∧ (Slh vB t.nb) ∧ (Slh vF t.nf) ∧ (Slh vC t.nc) ∧ M = [(0, .func (.yield l) #[] #[]), (3, .pointer (some ⟨g1, 0, none⟩)), (4, .int .i64 e)] ∧ Sat w0 w [.sem (C s), .blk gp [vc, vA, vb], .blk g1 [.int .i64 t.vars, .int .i64 t.den, vB, vF, vC], .own vB 1 3 t.nb (ints t.B), .own vF 1 3 t.nf (ints t.F), .own vC 1 22 t.nc vv, .sem (Frame.rows 3 t.nc vv t.ln t.C)]) ⟨s0, tk1, vBk1, vFk1, vCk1, vvk1, ek1, rfl, ?_, ?_, ?_, ?_, ?_, rfl, hS.pk [0, 1, 6, 2, 3, 4, 5]⟩ ?_
  ·
   rw [hs0]; exact .start hstk1
  ·
   rw [hs0]; intro y hy; cases hy
  ·
   exact hsBk1
  ·
   exact hsFk1
  ·
   exact hsCk1
  ·
   clear hS w
   rintro mm M w ⟨s, t, vB, vF, vC, vv, e, rfl, hRn, hok, hsB, hsF, hsC, rfl, hS⟩
   have hrs := fun k (k0 : 0 ≤ k) (k1 : k < t.nc) => hS.slhIn 6 rfl k0 k1
   refine hbk <| hsq <| hsq <| hrz ?_
   refine zlv xmv ?_
   refine zlv xeql ?_
   refine zln <| zh <| htn ?_
   refine hcif ?_ ?_ <;> intro hc
   ·
    refine hrz ?_
    refine zlv (xls 2 st_28 hS) ?_
    refine zlc (xc0 cl_28) (c_Optimize (t := t) w (⟨(hS.rowN 3 rfl), (hS.rowN 4 rfl), (⟨(hS.rowN 5 rfl), fun k k0 k1 => hS.rowIn 6 rfl k0 k1, fun k k0 k1 => hS.roomIn 6 rfl k0 k1⟩ : MAt _ vC t.nc vv t.ln t.C)⟩ : TAt _ vB vF vC vv t)) ?_; rintro _ w ⟨vBk2, vFk2, vCk2, vvk2, tk2, ek2, rfl, hopk2, hsBk2, hsFk2, hsCk2, hS'⟩
    replace hS : Sat w0 w [.sem (C s), .blk gp [vc, vA, vb], .blk g1 [.int .i64 t.vars, .int .i64 t.den, vB, vF, vC], .own vB 1 3 t.nb (ints t.B), .own vF 1 3 t.nf (ints t.F), .own vC 1 22 t.nc vv, .sem (Frame.rows 3 t.nc vv t.ln t.C), .own vBk2 1 3 tk2.nb (ints tk2.B), .own vFk2 1 3 tk2.nf (ints tk2.F), .own vCk2 1 22 tk2.nc vvk2, .sem (Frame.rows 3 tk2.nc vvk2 tk2.ln tk2.C)] := hS.comp hS'; clear hS'
    have hrsk2 := fun k (k0 : 0 ≤ k) (k1 : k < tk2.nc) => hS.slhIn 10 rfl k0 k1
    refine zlv xmv ?_
    iterate 2 refine zlv xex ?_
    refine zle (xsw 2 st_28 hS (hd := (ones_cons rfl (ones_cons rfl (ones_cons hsBk2.one (ones_cons hsFk2.one (ones_cons hsCk2.one ones_nil))))))) ?_; clear hS; rintro w hS
    replace hS : Sat w0 w [_, .blk _ [_, _, _], .blk _ [_, _, _, _, _], _, _, _, _, _, _, _, _] := hS
    refine zlv xas ?_
    refine zln <| zh <| htn <| hsq <| hsq <| hrz ?_
    refine zlv xmv ?_
    refine zlv xneq ?_
    refine zln <| zh <| htn ?_
    refine hcif ?_ ?_ <;> intro hc
    ·
     refine hsq <| hrg ?_
     iterate 2 refine hlv xmv ?_
     refine hlv (xany (v := .agg #[.int .i64 0, .int .i64 0, .slice none 0 0, .slice none 0 0, .slice none 0 0, .bool false, .int .i64 ek2])) ?_
     refine hlas 24 (u := .agg #[.int .i64 0, .int .i64 0, .slice none 0 0, .slice none 0 0, .slice none 0 0, B (False), .int .i64 ek2]) (by rw [B_false not_false]) ?_
     obtain rfl : e = 0 := by omega
     have hprey1 : GPre p (hist s) ⟨Tb.zero, .slice none 0 0, .slice none 0 0, .slice none 0 0, fun _ => undef, False, ek2⟩ (Frame.bun [.blk g1 [.int .i64 tk2.vars, .int .i64 tk2.den, vBk2, vFk2, vCk2], .own vB 1 3 t.nb (ints t.B), .own vF 1 3 t.nf (ints t.F), .own vC 1 22 t.nc vv, .sem (Frame.rows 3 t.nc vv t.ln t.C), .own vBk2 1 3 tk2.nb (ints tk2.B), .own vFk2 1 3 tk2.nf (ints tk2.F), .own vCk2 1 22 tk2.nc vvk2, .sem (Frame.rows 3 tk2.nc vvk2 tk2.ln tk2.C)]) := ⟨t, 0, hRn, hok, slh_nil, slh_nil, slh_nil, .inl ⟨by omega, not_false, .inr ⟨rfl, _, hopk2⟩⟩⟩
     refine hly (hY s _ _ w hprey1 (Sat.bundle (l1 := [_, _]) hS)) ?_; rintro _ w (⟨rfl, sy1, hny1, hS⟩ | ⟨rfl, ty1, hdy1, hS⟩)
     ·
      replace hS := Sat.unbundle (l1 := [_, _]) (l3 := []) hS
      replace hS : Sat w0 w [_, .blk _ [_, _, _], .blk _ [_, _, _, _, _], _, _, _, _, _, _, _, _] := hS
      refine hln <| htn <| hrt <| ztr <| zbr <| ztr <| zbr <| zf0 ⟨_, rfl, ?_⟩
      exact .inl ⟨sy1, _, ⟨hist s, _, hny1.1, hny1.2, hprey1, by first | exact not_false | assumption⟩, Sat.bundle (l1 := [_, _]) hS⟩
     ·
      replace hS := Sat.unbundle (l1 := [_, _]) (l3 := []) hS
      replace hS : Sat w0 w [_, .blk _ [_, _, _], .blk _ [_, _, _, _, _], _, _, _, _, _, _, _, _] := hS
      refine hln <| htn <| hrt <| ztr <| zbr <| ztr <| zbr <| zf0 ⟨_, rfl, ?_⟩
      exact .inr ⟨ty1, _, ⟨s, _, hdy1, hprey1⟩, Sat.bundle (l1 := [_, _]) hS⟩
    ·
     refine hsk <| htn <| hsq <| hrz ?_
     refine zlv (xls 2 st_28 hS) ?_
     refine zlc (xc0 cl_16) (c_frac (t := tk2) w (⟨(hS.rowN 7 rfl), (hS.rowN 8 rfl), (⟨(hS.rowN 9 rfl), fun k k0 k1 => hS.rowIn 10 rfl k0 k1, fun k k0 k1 => hS.roomIn 10 rfl k0 k1⟩ : MAt _ vCk2 tk2.nc vvk2 tk2.ln tk2.C)⟩ : TAt _ vBk2 vFk2 vCk2 vvk2 tk2)) ?_; rintro _ w ⟨rf1, okf1, ef1, rfl, hfrf1, hS'⟩
     replace hS := hS.cmp hS'; clear hS'
     refine zlv xmv ?_
     iterate 3 refine zlv xex ?_
     iterate 3 refine zlv xas ?_
     refine zln <| zh <| htn <| hsq <| hsq <| hrg ?_
     refine hlv xmv ?_
     refine hlv (xls 2 st_28 hS) ?_
     refine hlv xmv ?_
     refine hlv (xany (v := .agg #[.int .i64 tk2.vars, .int .i64 tk2.den, vBk2, vFk2, vCk2, B (okf1), .int .i64 0]) (hr := by obtain ⟨_, _, _, _, rfl, _⟩ := hsBk2; obtain ⟨_, _, _, _, rfl, _⟩ := hsFk2; obtain ⟨_, _, _, _, rfl, _⟩ := hsCk2; kernel_rfl)) ?_
     obtain rfl : e = 0 := by omega
     have hop0 : OptR t tk2 0 := by have := hopk2; rwa [show ek2 = 0 by omega] at this
     have hpu := hop0.prp
     obtain ⟨_, hfr1, hfr2, hfr3⟩ : TPrp tk2 ∧ rf1 = max (gfr tk2 tk2.nb.toNat) 0 ∧ (okf1 ↔ 0 ≤ gfr tk2 tk2.nb.toNat) ∧ ef1 = 0 := hfrf1.resolve_left (fun h => h.1 hpu.1)
     have hprey2 : GPre p (hist s) ⟨tk2, vBk2, vFk2, vCk2, vvk2, okf1, 0⟩ (Frame.bun [.blk g1 [.int .i64 tk2.vars, .int .i64 tk2.den, vBk2, vFk2, vCk2], .own vB 1 3 t.nb (ints t.B), .own vF 1 3 t.nf (ints t.F), .own vC 1 22 t.nc vv, .sem (Frame.rows 3 t.nc vv t.ln t.C), .own vBk2 1 3 tk2.nb (ints tk2.B), .own vFk2 1 3 tk2.nf (ints tk2.F), .own vCk2 1 22 tk2.nc vvk2, .sem (Frame.rows 3 tk2.nc vvk2 tk2.ln tk2.C)]) := ⟨t, 0, hRn, hok, hsBk2, hsFk2, hsCk2, .inr ⟨rfl, rfl, hop0, hpu.1, hfr2, fun w h => tat_of h (List.mem_of_getElem? (i := 5) rfl) (List.mem_of_getElem? (i := 6) rfl) (List.mem_of_getElem? (i := 7) rfl) (List.mem_of_getElem? (i := 8) rfl)⟩⟩
     refine hly (hY s _ _ w hprey2 (Sat.bundle (l1 := [_, _]) hS)) ?_; rintro _ w (⟨rfl, sy2, hny2, hS⟩ | ⟨rfl, ty2, hdy2, hS⟩)
     ·
      replace hS := Sat.unbundle (l1 := [_, _]) (l3 := []) hS
      replace hS : Sat w0 w [_, .blk _ [_, _, _], .blk _ [_, _, _, _, _], _, _, _, _, _, _, _, _] := hS
      refine hlv xnt ?_
      iterate 2 refine hlv xmv ?_
      refine hlv xnot ?_
      refine hlv xpf ?_
      refine hln <| htn ?_
      refine hcif ?_ ?_ <;> intro hc
      ·
       refine hrt <| ztr <| zbr <| ztr <| zbr <| zf0 ⟨_, rfl, ?_⟩
       exact .inl ⟨sy2, _, ⟨hist s, _, hny2.1, hny2.2, hprey2, by first | exact not_false | assumption⟩, Sat.bundle (l1 := [_, _]) hS⟩
      ·
       refine hsk <| htn <| hrz ?_
       refine zlv (xls 2 st_28 hS) ?_
       refine zlv xmv ?_
       have hrr := hfrf1.rng; have hbn := hpu.1.m2
       refine zlc (xc0 cl_20) (c_add (t := tk2) (row := rf1) w (⟨(hS.rowN 7 rfl), (hS.rowN 8 rfl), (⟨(hS.rowN 9 rfl), fun k k0 k1 => hS.rowIn 10 rfl k0 k1, fun k k0 k1 => hS.roomIn 10 rfl k0 k1⟩ : MAt _ vCk2 tk2.nc vvk2 tk2.ln tk2.C)⟩ : TAt _ vBk2 vFk2 vCk2 vvk2 tk2) (by omega)) ?_; rintro _ w ⟨vBk3, vFk3, vCk3, vvk3, tk3, ek3, rfl, hadk3, hsBk3, hsFk3, hsCk3, hS'⟩
       replace hS : Sat w0 w [.sem (C sy2), .blk gp [vc, vA, vb], .blk g1 [.int .i64 tk2.vars, .int .i64 tk2.den, vBk2, vFk2, vCk2], .own vB 1 3 t.nb (ints t.B), .own vF 1 3 t.nf (ints t.F), .own vC 1 22 t.nc vv, .sem (Frame.rows 3 t.nc vv t.ln t.C), .own vBk2 1 3 tk2.nb (ints tk2.B), .own vFk2 1 3 tk2.nf (ints tk2.F), .own vCk2 1 22 tk2.nc vvk2, .sem (Frame.rows 3 tk2.nc vvk2 tk2.ln tk2.C), .own vBk3 1 3 tk3.nb (ints tk3.B), .own vFk3 1 3 tk3.nf (ints tk3.F), .own vCk3 1 22 tk3.nc vvk3, .sem (Frame.rows 3 tk3.nc vvk3 tk3.ln tk3.C)] := hS.comp hS'; clear hS'
       have hrsk3 := fun k (k0 : 0 ≤ k) (k1 : k < tk3.nc) => hS.slhIn 14 rfl k0 k1
       refine zlv xmv ?_
       iterate 2 refine zlv xex ?_
       refine zle (xsw 2 st_28 hS (hd := (ones_cons rfl (ones_cons rfl (ones_cons hsBk3.one (ones_cons hsFk3.one (ones_cons hsCk3.one ones_nil))))))) ?_; clear hS; rintro w hS
       replace hS : Sat w0 w [_, .blk _ [_, _, _], .blk _ [_, _, _, _, _], _, _, _, _, _, _, _, _, _, _, _, _] := hS
       refine zlv xas ?_
       refine zln <| zh <| zbn <| hlq ⟨sy2, tk3, vBk3, vFk3, vCk3, vvk3, ek3, rfl, ?_, ?_, ?_, ?_, ?_, rfl, hS.pk [0, 1, 2, 11, 12, 13, 14]⟩ (hlt := (by rw [if_pos rfl]; have hd1 := hpu.2; have hd2 := hpu.1.m2; split <;> rename_i hz; (have hq := hadk3.nb hz; omega); omega))
       ·
        rw [hny2.1, List.map_append]
        exact .cut hRn hop0 hpu.1 (hfr2.1 (by first | assumption | exact Classical.not_not.1 ‹_›)) (by have hq := hadk3; rwa [show rf1 = gfr tk2 tk2.nb.toNat by have := hfr2.1 (by first | assumption | exact Classical.not_not.1 ‹_›); omega] at hq)
       ·
        rw [hny2.1]; intro y hy; rcases List.mem_append.1 hy with hy | hy
        · exact hok y hy
        · obtain rfl := List.mem_singleton.1 hy; exact ⟨(by first | assumption | exact Classical.not_not.1 ‹_›), rfl⟩
       ·
        exact hsBk3
       ·
        exact hsFk3
       ·
        exact hsCk3
     ·
      replace hS := Sat.unbundle (l1 := [_, _]) (l3 := []) hS
      replace hS : Sat w0 w [_, .blk _ [_, _, _], .blk _ [_, _, _, _, _], _, _, _, _, _, _, _, _] := hS
      refine hlv xnf ?_
      refine hlv xmv ?_
      iterate 2 refine hlo ?_
      refine hlv xpt ?_
      refine hln <| htn <| hct <| hrt <| ztr <| zbr <| ztr <| zbr <| zf0 ⟨_, rfl, ?_⟩
      exact .inr ⟨ty2, _, ⟨s, _, hdy2, hprey2⟩, Sat.bundle (l1 := [_, _]) hS⟩
   ·
    refine hsk <| htn <| hsq <| hsq <| hrz ?_
    refine zlv xmv ?_
    refine zlv xneq ?_
    refine zln <| zh <| htn ?_
    refine hcif ?_ ?_ <;> intro hc
    ·
     refine hsq <| hrg ?_
     iterate 2 refine hlv xmv ?_
     refine hlv (xany (v := .agg #[.int .i64 0, .int .i64 0, .slice none 0 0, .slice none 0 0, .slice none 0 0, .bool false, .int .i64 e])) ?_
     refine hlas 24 (u := .agg #[.int .i64 0, .int .i64 0, .slice none 0 0, .slice none 0 0, .slice none 0 0, B (False), .int .i64 e]) (by rw [B_false not_false]) ?_
     have hprey3 : GPre p (hist s) ⟨Tb.zero, .slice none 0 0, .slice none 0 0, .slice none 0 0, fun _ => undef, False, e⟩ (Frame.bun [.blk g1 [.int .i64 t.vars, .int .i64 t.den, vB, vF, vC], .own vB 1 3 t.nb (ints t.B), .own vF 1 3 t.nf (ints t.F), .own vC 1 22 t.nc vv, .sem (Frame.rows 3 t.nc vv t.ln t.C)]) := ⟨t, e, hRn, hok, slh_nil, slh_nil, slh_nil, .inl ⟨by omega, not_false, .inl ⟨rfl, by omega⟩⟩⟩
     refine hly (hY s _ _ w hprey3 (Sat.bundle (l1 := [_, _]) hS)) ?_; rintro _ w (⟨rfl, sy3, hny3, hS⟩ | ⟨rfl, ty3, hdy3, hS⟩)
     ·
      replace hS := Sat.unbundle (l1 := [_, _]) (l3 := []) hS
      replace hS : Sat w0 w [_, .blk _ [_, _, _], .blk _ [_, _, _, _, _], _, _, _, _] := hS
      refine hln <| htn <| hrt <| ztr <| zbr <| ztr <| zbr <| zf0 ⟨_, rfl, ?_⟩
      exact .inl ⟨sy3, _, ⟨hist s, _, hny3.1, hny3.2, hprey3, by first | exact not_false | assumption⟩, Sat.bundle (l1 := [_, _]) hS⟩
     ·
      replace hS := Sat.unbundle (l1 := [_, _]) (l3 := []) hS
      replace hS : Sat w0 w [_, .blk _ [_, _, _], .blk _ [_, _, _, _, _], _, _, _, _] := hS
      refine hln <| htn <| hrt <| ztr <| zbr <| ztr <| zbr <| zf0 ⟨_, rfl, ?_⟩
      exact .inr ⟨ty3, _, ⟨s, _, hdy3, hprey3⟩, Sat.bundle (l1 := [_, _]) hS⟩
    ·
     exfalso; omega

theorem c_rounds {vc vA vb : Value} {vq : Int → Value} {p : Lp} (w0 : World) (hL : LAt w0 vc vA vb vq p) :
    Calls Try.prog 72 [.agg #[vc, vA, vb]].toArray w0 fun e w => ∃ v, e = .returned v ∧ ∃ g, v = .func (.func 109) #[] #[.pointer (some ⟨g, 0, none⟩)] ∧ Sat w0 w [.blk g [vc, vA, vb]] := by
  refine zenG Try.func72 Try.ntmps72 fun w hS => ?_
  refine zsq <| zrg ?_
  refine zla (xbx (cs := [_, _, _]) hS) ?_; rintro _ w ⟨g1, rfl, hS⟩
  replace hS : Sat w0 w [.blk _ [_, _, _]] := hS
  refine zlv xas ?_
  refine zln <| ztn <| zsq <| zrg ?_
  refine zlv xmf ?_
  refine zlv xas ?_
  refine zln <| ztn <| zrt <| zf1 ⟨_, rfl, ?_⟩
  exact ⟨_, rfl, hS⟩

end Go.Proofs.Ytelfplepnodbgaa
