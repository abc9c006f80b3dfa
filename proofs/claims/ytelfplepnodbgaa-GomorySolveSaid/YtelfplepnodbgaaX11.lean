/- The walks of awake and same, of the statements of layer 33. -/
import Derived.Test.YtelfplepnodbgaaGc
import Derived.Test.YtelfplepnodbgaaX10
import Derived.Test.YtelfplepnodbgaaFw
namespace Go.Proofs.Ytelfplepnodbgaa
open Go Go.RowKit Go.Proofs.Gw
set_option linter.unusedVariables false

theorem cl_29 : calledT Try.prog 29 = true := by kernel_rfl
theorem cl_67 : calledT Try.prog 67 = true := by kernel_rfl
def pGo : Lp := ⟨2, 1, 1, fun k => [1, 1].getD k.toNat 0, fun _ => 2, fun _ k => [2, 2].getD k.toNat 0, fun _ => 3⟩
def tGo1 : Tb := piv (startT pGo) 0 0
def tGo2 : Tb := addT tGo1 0
def tGo3 : Tb := piv tGo2 1 0
theorem okGo : LOk pGo := ⟨by decide, by decide, by decide, rfl, bnd (by decide), bnd (by decide), fun i i0 i1 => by
  have : i = 0 := by simp [pGo] at i1; omega
  subst this
  exact ⟨rfl, bnd (by decide)⟩⟩
theorem runGo1 : OptR (startT pGo) tGo1 0 := ⟨_, _, .go (next_of (r := 0) (c := 0) (by decide +kernel) (by decide +kernel) (by decide +kernel) (by decide) (by decide)) (piv_of (by decide +kernel)) (.stop (stop_of (by decide +kernel) (by decide +kernel)) (.inl rfl)), .inl ⟨rfl, rfl, rfl⟩⟩
theorem runGo2 : OptR tGo2 tGo3 0 := ⟨_, _, .go (next_of (r := 1) (c := 0) (by decide +kernel) (by decide +kernel) (by decide +kernel) (by decide) (by decide)) (piv_of (by decide +kernel)) (.stop (stop_of (by decide +kernel) (by decide +kernel)) (.inl rfl)), .inl ⟨rfl, rfl, rfl⟩⟩
theorem frGo : gfr tGo1 tGo1.nb.toNat = 0 := by decide +kernel
theorem rnGo : Rn pGo [tGo1] tGo2 0 := by
  have h := runGo1.prp
  refine .cut (us := []) (.start (.inr ⟨okGo, rfl, rfl⟩)) runGo1 h.1 (by rw [frGo]; omega) ?_
  rw [frGo]
  exact .inr (.inr (.inr (.inr ⟨h.1, by omega, by decide +kernel, by decide +kernel, by decide +kernel, rfl, rfl⟩)))
theorem solGo {n val cuts e : Int} {f : Int → Int} (h : GSolveR pGo n f val cuts e) : e = 0 ∧ val = 2 ∧ cuts = 1 ∧ n = 2 ∧ f 0 = 2 ∧ f 1 = 0 := by
  obtain ⟨h1, h2, h3, h4, h5⟩ := GSolveR.same (by decide) h (.inr ⟨rfl, _, _, _, rnGo, runGo2, by decide +kernel, rfl, rfl, fun _ _ _ => rfl, rfl⟩)
  have n2 : n = 2 := h1
  refine ⟨h5, h3.trans (by decide +kernel), h4, n2, ?_, ?_⟩
  · rw [h2 0 (by omega) (by omega)]; decide +kernel
  · rw [h2 1 (by omega) (by omega)]; decide +kernel
theorem matEx1 {w : World} {v a : Value} {n : Int} {f : Int → Int} (h : Row w v 1 1 (fun _ => a)) (ha : Row w a 1 n (ints f)) (ra : Gw.Roomy a) : MAt w v 1 (fun _ => a) (fun _ => n) (fun _ => f) :=
  ⟨h, fun i i0 i1 => ha, fun i i0 i1 => ra⟩

set_option maxRecDepth 20000 in
theorem c_gawake  (w0 : World) :
    Calls Try.prog 14 [].toArray w0 fun e w => ∃ v, e = .returned v ∧ v = .bool true ∧ Sat w0 w [] := by
  refine zenG Try.func14 Try.ntmps14 fun w hS => ?_
  refine zsq <| zrg ?_
  refine zlv xas ?_
  refine zln <| ztn <| zsq <| zrg ?_
  refine zla (xli (n := 2) (len := 2) (pv := [(0, .int .i64 1), (1, .int .i64 1)]) (cs := [.int .i64 1, .int .i64 1]) (c := ints (fun k => [1, 1].getD k.toNat 0)) sl_22 el_3 hS) ?_; rintro v1 w ⟨hS, hv1⟩
  replace hS : Sat w0 w [_] := hS
  refine zla (xli (n := 2) (len := 2) (pv := [(0, .int .i64 2), (1, .int .i64 2)]) (cs := [.int .i64 2, .int .i64 2]) (c := ints (fun k => [2, 2].getD k.toNat 0)) sl_22 el_3 hS) ?_; rintro v2 w ⟨hS, hv2⟩
  replace hS : Sat w0 w [_, _] := hS
  refine zla (xli (n := 1) (len := 1) (pv := [(0, v2)]) (cs := [v2]) (c := (fun _ => v2)) sl_23 el_22 hS (hf := by obtain ⟨_, _, _, _, rfl, _⟩ := hv2; kernel_rfl)) ?_; rintro v3 w ⟨hS, hv3⟩
  replace hS : Sat w0 w [_, _, _] := hS
  refine zla (xli (n := 1) (len := 1) (pv := [(0, .int .i64 3)]) (cs := [.int .i64 3]) (c := ints (fun _ => 3)) sl_22 el_3 hS) ?_; rintro v4 w ⟨hS, hv4⟩
  replace hS : Sat w0 w [_, _, _, _] := hS
  refine zlv (xany (v := .agg #[v1, v3, v4]) (hr := by obtain ⟨_, _, _, _, rfl, _⟩ := hv1; obtain ⟨_, _, _, _, rfl, _⟩ := hv3; obtain ⟨_, _, _, _, rfl, _⟩ := hv4; kernel_rfl)) ?_
  refine zlc (xc0 cl_29) (c_gsolve (p := pGo) w (⟨(hS.rowN 0 rfl), matEx1 (hS.rowN 2 rfl) (hS.rowN 1 rfl) (Ent.holds.roomy (hS.holds _ (List.mem_of_getElem? (i := 1) rfl))), (hS.rowN 3 rfl)⟩ : LAt _ v1 v3 v4 (fun _ => v2) pGo)) ?_; rintro _ w ⟨xry1, xny1, xfy1, vay1, cuy1, ey1, rfl, hgsy1, hxry1, hS'⟩
  replace hS : Sat w0 w [.own v1 1 3 2 (ints (fun k => [1, 1].getD k.toNat 0)), .own v2 1 3 2 (ints (fun k => [2, 2].getD k.toNat 0)), .own v3 1 22 1 (fun _ => v2), .own v4 1 3 1 (ints (fun _ => 3)), .own xry1 1 3 xny1 (ints xfy1)] := hS.comp hS'; clear hS'
  obtain ⟨e1, e2, e3, e4, e5, e6⟩ := solGo hgsy1
  refine zlv xmv ?_
  iterate 4 refine zlv xex ?_
  iterate 4 refine zlv xas ?_
  refine zln <| ztn <| zsq ?_
  refine zdst [0, 1, 2, 3, 4] [0, 1, 2, 3, 4] 1000 mx_ hS ?_; clear hS; intro w hS
  refine zdv 0 (fun _ => xmv) ?_
  refine zdv 1 (fun _ => xeql) ?_
  refine zdv 2 (fun _ => xmv) ?_
  refine zdb 18 ?_ ?_ <;> intro hc
  ·
   refine zdv 3 (fun _ => xmv) ?_
   refine zdv 4 (fun _ => xeql) ?_
   refine zdv 5 (fun _ => xpt) ?_
   refine zdv 6 (fun _ => xmv) ?_
   refine zdb 22 ?_ ?_ <;> intro hc
   ·
    refine zdv 7 (fun _ => xmv) ?_
    refine zdv 8 (fun _ => xeql) ?_
    refine zdv 9 (fun _ => xpt) ?_
    refine zdv 10 (fun _ => xmv) ?_
    refine zdb 26 ?_ ?_ <;> intro hc
    ·
     refine zdv 11 (fun _ => xmv) ?_
     refine zdv 12 (fun _ => (xln sl_22 hxry1)) ?_
     refine zdv 13 (fun _ => xeql) ?_
     refine zdv 14 (fun _ => xpt) ?_
     refine zdv 15 (fun _ => xmv) ?_
     refine zdb 31 ?_ ?_ <;> intro hc
     ·
      refine zdv 16 (fun _ => xmv) ?_
      refine zdv 17 (fun _ => (xix (kk := 0) sl_22 hxry1)) ?_
      refine zdla 18 (fun w hS => (xlr (u := .int .i64 (xfy1 0)) pl_3 (hS.rowN 4 rfl))) ?_
      refine zdv 19 (fun _ => xmv) ?_
      refine zdv 20 (fun _ => (xix (kk := 1) sl_22 hxry1)) ?_
      refine zdla 21 (fun w hS => (xlr (u := .int .i64 (xfy1 1)) pl_3 (hS.rowN 4 rfl))) ?_
      refine zdv 22 (fun _ => (xadd (r := (xfy1 0) + (xfy1 1)))) ?_
      refine zdv 23 (fun _ => xeql) ?_
      refine zdv 24 (fun _ => xpt) ?_
      refine zdv 25 (fun _ => xas) ?_
      refine zdd <| ztn <| zrt <| zf1 ⟨_, rfl, ?_⟩
      exact ⟨(true_B (by first | omega | (rw [e6, e5]; omega) | exact absurd ‹_› (by omega))).symm, hS.nl⟩
     ·
      refine zdof 16 ?_
      refine zdof 17 ?_
      refine zdof 18 ?_
      refine zdof 19 ?_
      refine zdof 20 ?_
      refine zdof 21 ?_
      refine zdof 22 ?_
      refine zdof 23 ?_
      refine zdv 24 (fun _ => xpf) ?_
      refine zdv 25 (fun _ => xas) ?_
      refine zdd <| ztn <| zrt <| zf1 ⟨_, rfl, ?_⟩
      exfalso; first | omega | exact absurd ‹_› (by omega)
    ·
     refine zdof 11 ?_
     refine zdof 12 ?_
     refine zdof 13 ?_
     refine zdv 14 (fun _ => xpf) ?_
     refine zdv 15 (fun _ => xmv) ?_
     refine zdof 16 ?_
     refine zdof 17 ?_
     refine zdof 18 ?_
     refine zdof 19 ?_
     refine zdof 20 ?_
     refine zdof 21 ?_
     refine zdof 22 ?_
     refine zdof 23 ?_
     refine zdv 24 (fun _ => xpf) ?_
     refine zdv 25 (fun _ => xas) ?_
     refine zdd <| ztn <| zrt <| zf1 ⟨_, rfl, ?_⟩
     exfalso; first | omega | exact absurd ‹_› (by omega)
   ·
    refine zdof 7 ?_
    refine zdof 8 ?_
    refine zdv 9 (fun _ => xpf) ?_
    refine zdv 10 (fun _ => xmv) ?_
    refine zdof 11 ?_
    refine zdof 12 ?_
    refine zdof 13 ?_
    refine zdv 14 (fun _ => xpf) ?_
    refine zdv 15 (fun _ => xmv) ?_
    refine zdof 16 ?_
    refine zdof 17 ?_
    refine zdof 18 ?_
    refine zdof 19 ?_
    refine zdof 20 ?_
    refine zdof 21 ?_
    refine zdof 22 ?_
    refine zdof 23 ?_
    refine zdv 24 (fun _ => xpf) ?_
    refine zdv 25 (fun _ => xas) ?_
    refine zdd <| ztn <| zrt <| zf1 ⟨_, rfl, ?_⟩
    exfalso; first | omega | exact absurd ‹_› (by omega)
  ·
   refine zdof 3 ?_
   refine zdof 4 ?_
   refine zdv 5 (fun _ => xpf) ?_
   refine zdv 6 (fun _ => xmv) ?_
   refine zdof 7 ?_
   refine zdof 8 ?_
   refine zdv 9 (fun _ => xpf) ?_
   refine zdv 10 (fun _ => xmv) ?_
   refine zdof 11 ?_
   refine zdof 12 ?_
   refine zdof 13 ?_
   refine zdv 14 (fun _ => xpf) ?_
   refine zdv 15 (fun _ => xmv) ?_
   refine zdof 16 ?_
   refine zdof 17 ?_
   refine zdof 18 ?_
   refine zdof 19 ?_
   refine zdof 20 ?_
   refine zdof 21 ?_
   refine zdof 22 ?_
   refine zdof 23 ?_
   refine zdv 24 (fun _ => xpf) ?_
   refine zdv 25 (fun _ => xas) ?_
   refine zdd <| ztn <| zrt <| zf1 ⟨_, rfl, ?_⟩
   exfalso; first | omega | exact absurd ‹_› (by omega)

set_option maxRecDepth 20000 in
theorem c_gsame {vB vF vC : Value} {vv : Int → Value} {t : Tb} {xB xF xC : Value} {xv : Int → Value} {u : Tb} (w0 : World) (hT : TAt w0 vB vF vC vv t) (hU : TAt w0 xB xF xC xv u) :
    Calls Try.prog 23 [.agg #[.int .i64 t.vars, .int .i64 t.den, vB, vF, vC], .agg #[.int .i64 u.vars, .int .i64 u.den, xB, xF, xC]].toArray w0 fun e w => ∃ v, e = .returned v ∧ v = B (SameT t u) ∧ Sat w0 w [] := by
  have hn := hT.F.slh.n0; have hn1 := hT.F.slh.n1; have hb := hT.B.slh.n0; have hb1 := hT.B.slh.n1; have hc0 := hT.C.row.slh.n0; have hc1 := hT.C.row.slh.n1; have hcu := hU.C.row.slh.n1
  refine zenG Try.func23 Try.ntmps23 fun w hS => ?_
  refine zsq <| zrg ?_
  refine zla (xbx (cs := [_, _, _, _, _]) hS) ?_; rintro _ w ⟨g1, rfl, hS⟩
  replace hS : Sat w0 w [.blk _ [_, _, _, _, _]] := hS
  refine zla (xbx (cs := [_, _, _, _, _]) hS) ?_; rintro _ w ⟨g2, rfl, hS⟩
  replace hS : Sat w0 w [.blk _ [_, _, _, _, _], .blk _ [_, _, _, _, _]] := hS
  refine zlv xas ?_
  refine zln <| ztn <| zsq <| zrg ?_
  refine zlv (xls 0 st_28 hS) ?_
  refine zlv (xls 1 st_25 hS) ?_
  refine zlc (xc0 cl_67) (c_samet (t := t) (u := u) w (hT.below hS.below) (hU.below hS.below)) ?_; rintro _ w ⟨rfl, hS'⟩
  replace hS := hS.cmp hS'; clear hS'
  refine zlv xas ?_
  refine zln <| ztn <| zrt <| zf1 ⟨_, rfl, ?_⟩
  exact ⟨rfl, hS.nl⟩

end Go.Proofs.Ytelfplepnodbgaa
