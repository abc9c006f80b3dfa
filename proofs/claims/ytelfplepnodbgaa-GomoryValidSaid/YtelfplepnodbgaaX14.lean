/- The walk of GomoryWhole. -/
import Derived.Test.YtelfplepnodbgaaGc
import Derived.Test.YtelfplepnodbgaaX11
namespace Go.Proofs.Ytelfplepnodbgaa
open Go Go.RowKit Go.Proofs.Gw
set_option linter.unusedVariables false

theorem cl_14 : calledT Try.prog 14 = true := by kernel_rfl
theorem cl_15 : calledT Try.prog 15 = true := by kernel_rfl
theorem cl_23 : calledT Try.prog 23 = true := by kernel_rfl
theorem cl_24 : calledT Try.prog 24 = true := by kernel_rfl
theorem cl_30 : calledT Try.prog 30 = true := by kernel_rfl
theorem cl_31 : calledT Try.prog 31 = true := by kernel_rfl
theorem cl_32 : calledT Try.prog 32 = true := by kernel_rfl
theorem cl_33 : calledT Try.prog 33 = true := by kernel_rfl
theorem fd_60_2 : fieldT Try.prog 60 2 = some 2 := by kernel_rfl
theorem fd_60_3 : fieldT Try.prog 60 3 = some 3 := by kernel_rfl
theorem eqlB (w : World) (a b : Bool) : (binOp .eql 4 (.bool a) (.bool b)).run Try.prog w = .ok (.bool (a == b)) w := by
  cases a <;> cases b <;> kernel_rfl
theorem ex_eqb {L : List (Nat × Value)} {w : World} {o : Oper} {x y : Operand} {T' : TypeId} {p q : Prop} (ho : o.op = .binOp .eql 4 x y T') (hx : evL L x = some (B p)) (hy : evL L y = some (B q)) : Runs Try.prog L w o (.value (B (p ↔ q))) w := fun ρ h => by
  by_cases hp : p <;> by_cases hq : q
  · rw [B_true hp] at hx; rw [B_true hq] at hy; rw [B_true (show p ↔ q from ⟨fun _ => hq, fun _ => hp⟩)]; simp [execOp, ho, h _ _ hx, h _ _ hy, eqlB]; rfl
  · rw [B_true hp] at hx; rw [B_false hq] at hy; rw [B_false (show ¬ (p ↔ q) from fun e => hq (e.1 hp))]; simp [execOp, ho, h _ _ hx, h _ _ hy, eqlB]; rfl
  · rw [B_false hp] at hx; rw [B_true hq] at hy; rw [B_false (show ¬ (p ↔ q) from fun e => hp (e.2 hq))]; simp [execOp, ho, h _ _ hx, h _ _ hy, eqlB]; rfl
  · rw [B_false hp] at hx; rw [B_false hq] at hy; rw [B_true (show p ↔ q from ⟨fun e => absurd e hp, fun e => absurd e hq⟩)]; simp [execOp, ho, h _ _ hx, h _ _ hy, eqlB]; rfl

theorem SameT.refl (t : Tb) : SameT t t := ⟨rfl, rfl, ⟨rfl, fun _ _ _ => rfl⟩, ⟨rfl, fun _ _ _ => rfl⟩, rfl, fun _ _ _ => ⟨rfl, fun _ _ _ => rfl⟩⟩

set_option maxRecDepth 20000 in
theorem law_gcut {vB vF vC : Value} {vv : Int → Value} {t : Tb} {row : Int} (w0 : World) (hT : TAt w0 vB vF vC vv t) (hrow0 : -9223372036854775808 ≤ row ∧ row ≤ 9223372036854775807) :
    Calls Try.prog 3 [.agg #[.int .i64 t.vars, .int .i64 t.den, vB, vF, vC], .int .i64 row].toArray w0 fun e w => ∃ v, e = .returned v ∧ v = .bool true ∧ Sat w0 w [] := by
  have hn := hT.F.slh.n0; have hn1 := hT.F.slh.n1; have hb := hT.B.slh.n0; have hb1 := hT.B.slh.n1; have hc0 := hT.C.row.slh.n0; have hc1 := hT.C.row.slh.n1
  refine zenG Try.func3 Try.ntmps3 fun w hS => ?_
  refine zsq <| zrg ?_
  refine zla (xbx (cs := [_, _, _, _, _]) hS) ?_; rintro _ w ⟨g1, rfl, hS⟩
  replace hS : Sat w0 w [.blk _ [_, _, _, _, _]] := hS
  refine zlv xas ?_
  refine zln <| ztn <| zsq <| zsq <| zrg ?_
  refine zlc (xc0 cl_14) (c_gawake w) ?_; rintro _ w ⟨rfl, hS'⟩
  replace hS := hS.cmp hS'; clear hS'
  refine zlv xnt ?_
  refine zlv xmv ?_
  refine zlv (xls 0 st_25 hS) ?_
  refine zlc (xc0 cl_15) (c_little (t := t) w (hT.below hS.below)) ?_; rintro _ w ⟨rfl, hS'⟩
  replace hS := hS.cmp hS'; clear hS'
  refine zlv xnot ?_
  refine zlv xpf ?_
  refine zln <| ztn ?_
  refine zcif ?_ ?_ <;> intro hc
  ·
   refine zsq <| zrg ?_
   refine zlc (xc0 cl_14) (c_gawake w) ?_; rintro _ w ⟨rfl, hS'⟩
   replace hS := hS.cmp hS'; clear hS'
   refine zlv xas ?_
   refine zln <| ztn <| zrt <| ztr <| zf1 ⟨_, rfl, ?_⟩
   exact ⟨rfl, hS.nl⟩
  ·
   refine zsk <| ztn <| zsq <| zrg ?_
   refine zlv (xls 0 st_25 hS) ?_
   refine zla (xal (cs := [_, _, _, _, _]) el_28 hS) ?_; rintro _ w ⟨g2, rfl, hS⟩
   replace hS : Sat w0 w [.blk _ [_, _, _, _, _], .blk _ [_, _, _, _, _]] := hS
   refine zle (xsw 1 st_28 hS (hd := (ones_cons rfl (ones_cons rfl (ones_cons hT.B.slh.one (ones_cons hT.F.slh.one (ones_cons hT.C.row.slh.one ones_nil))))))) ?_; clear hS; rintro w hS
   replace hS : Sat w0 w [.blk _ [_, _, _, _, _], .blk _ [_, _, _, _, _]] := hS
   refine zln <| ztn <| zsq <| zrg ?_
   refine zlv (xls 1 st_28 hS) ?_
   refine zlc (xc0 cl_16) (c_frac (t := t) w (hT.below hS.below)) ?_; rintro _ w ⟨rf1, okf1, ef1, rfl, hfrf1, hS'⟩
   replace hS := hS.cmp hS'; clear hS'
   refine zlv xmv ?_
   iterate 3 refine zlv xex ?_
   iterate 3 refine zlv xas ?_
   refine zln <| ztn <| zsq <| zrg ?_
   refine zlv (xls 0 st_25 hS) ?_
   refine zlc (xc0 cl_17) (c_rfrac (t := t) w (hT.below hS.below)) ?_; rintro _ w ⟨rf2, okf2, ef2, rfl, hfrf2, hS'⟩
   replace hS := hS.cmp hS'; clear hS'
   refine zlv xmv ?_
   iterate 3 refine zlv xex ?_
   iterate 3 refine zlv xas ?_
   refine zln <| ztn <| zsq <| zrg ?_
   refine zlv (xls 1 st_28 hS) ?_
   refine zlv xmv ?_
   refine zlc (xc0 cl_18) (c_cut (t := t) (row := row) w (hT.below hS.below) (by omega)) ?_; rintro _ w ⟨vc1, nc1, fc1, ec1, rfl, hcuc1, hslc1, hS'⟩
   replace hS : Sat w0 w [.blk g1 [.int .i64 t.vars, .int .i64 t.den, vB, vF, vC], .blk g2 [.int .i64 t.vars, .int .i64 t.den, vB, vF, vC], .own vc1 1 3 nc1 (ints fc1)] := hS.comp hS'; clear hS'
   refine zlv xmv ?_
   iterate 2 refine zlv xex ?_
   iterate 2 refine zlv xas ?_
   refine zln <| ztn <| zsq <| zrg ?_
   refine zlv (xls 0 st_25 hS) ?_
   refine zlv xmv ?_
   refine zlc (xc0 cl_19) (c_rcut (t := t) (row := row) w (hT.below hS.below) (by omega)) ?_; rintro _ w ⟨vc2, nc2, fc2, ec2, rfl, hcuc2, hslc2, hS'⟩
   replace hS : Sat w0 w [.blk g1 [.int .i64 t.vars, .int .i64 t.den, vB, vF, vC], .blk g2 [.int .i64 t.vars, .int .i64 t.den, vB, vF, vC], .own vc1 1 3 nc1 (ints fc1), .own vc2 1 3 nc2 (ints fc2)] := hS.comp hS'; clear hS'
   refine zlv xmv ?_
   iterate 2 refine zlv xex ?_
   iterate 2 refine zlv xas ?_
   refine zln <| ztn <| zsq <| zrg ?_
   refine zlv (xls 1 st_28 hS) ?_
   refine zlv xmv ?_
   refine zlc (xc0 cl_20) (c_add (t := t) (row := row) w (hT.below hS.below) (by omega)) ?_; rintro _ w ⟨vBk1, vFk1, vCk1, vvk1, tk1, ek1, rfl, hadk1, hsBk1, hsFk1, hsCk1, hS'⟩
   replace hS : Sat w0 w [.blk g1 [.int .i64 t.vars, .int .i64 t.den, vB, vF, vC], .blk g2 [.int .i64 t.vars, .int .i64 t.den, vB, vF, vC], .own vc1 1 3 nc1 (ints fc1), .own vc2 1 3 nc2 (ints fc2), .own vBk1 1 3 tk1.nb (ints tk1.B), .own vFk1 1 3 tk1.nf (ints tk1.F), .own vCk1 1 22 tk1.nc vvk1, .sem (Frame.rows 3 tk1.nc vvk1 tk1.ln tk1.C)] := hS.comp hS'; clear hS'
   have hrsk1 := fun k (k0 : 0 ≤ k) (k1 : k < tk1.nc) => hS.slhIn 7 rfl k0 k1
   refine zlv xmv ?_
   iterate 2 refine zlv xex ?_
   refine zla (xal (cs := [_, _, _, _, _]) el_28 hS) ?_; rintro _ w ⟨g3, rfl, hS⟩
   replace hS : Sat w0 w [.blk _ [_, _, _, _, _], .blk _ [_, _, _, _, _], _, _, _, _, _, _, .blk _ [_, _, _, _, _]] := hS
   refine zle (xsw 8 st_28 hS (hd := (ones_cons rfl (ones_cons rfl (ones_cons hsBk1.one (ones_cons hsFk1.one (ones_cons hsCk1.one ones_nil))))))) ?_; clear hS; rintro w hS
   replace hS : Sat w0 w [.blk _ [_, _, _, _, _], .blk _ [_, _, _, _, _], _, _, _, _, _, _, .blk _ [_, _, _, _, _]] := hS
   refine zlv xas ?_
   refine zln <| ztn <| zsq <| zrg ?_
   refine zlv (xls 0 st_25 hS) ?_
   refine zlv xmv ?_
   refine zlc (xc0 cl_21) (c_radd (t := t) (row := row) w (hT.below hS.below) (by omega)) ?_; rintro _ w ⟨vBk2, vFk2, vCk2, vvk2, tk2, ek2, rfl, hadk2, hsBk2, hsFk2, hsCk2, hS'⟩
   replace hS : Sat w0 w [.blk g1 [.int .i64 t.vars, .int .i64 t.den, vB, vF, vC], .blk g2 [.int .i64 t.vars, .int .i64 t.den, vB, vF, vC], .own vc1 1 3 nc1 (ints fc1), .own vc2 1 3 nc2 (ints fc2), .own vBk1 1 3 tk1.nb (ints tk1.B), .own vFk1 1 3 tk1.nf (ints tk1.F), .own vCk1 1 22 tk1.nc vvk1, .sem (Frame.rows 3 tk1.nc vvk1 tk1.ln tk1.C), .blk g3 [.int .i64 tk1.vars, .int .i64 tk1.den, vBk1, vFk1, vCk1], .own vBk2 1 3 tk2.nb (ints tk2.B), .own vFk2 1 3 tk2.nf (ints tk2.F), .own vCk2 1 22 tk2.nc vvk2, .sem (Frame.rows 3 tk2.nc vvk2 tk2.ln tk2.C)] := hS.comp hS'; clear hS'
   have hrsk2 := fun k (k0 : 0 ≤ k) (k1 : k < tk2.nc) => hS.slhIn 12 rfl k0 k1
   refine zlv xmv ?_
   iterate 2 refine zlv xex ?_
   refine zla (xal (cs := [_, _, _, _, _]) el_25 hS) ?_; rintro _ w ⟨g4, rfl, hS⟩
   replace hS : Sat w0 w [.blk _ [_, _, _, _, _], .blk _ [_, _, _, _, _], _, _, _, _, _, _, .blk _ [_, _, _, _, _], _, _, _, _, .blk _ [_, _, _, _, _]] := hS
   refine zle (xsw 13 st_25 hS (hd := (ones_cons rfl (ones_cons rfl (ones_cons hsBk2.one (ones_cons hsFk2.one (ones_cons hsCk2.one ones_nil))))))) ?_; clear hS; rintro w hS
   replace hS : Sat w0 w [.blk _ [_, _, _, _, _], .blk _ [_, _, _, _, _], _, _, _, _, _, _, .blk _ [_, _, _, _, _], _, _, _, _, .blk _ [_, _, _, _, _]] := hS
   refine zlv xas ?_
   refine zln <| ztn <| zsq <| zrg ?_
   refine zlv xmv ?_
   obtain ⟨q1, q2, q3⟩ := hfrf1.same hfrf2
   obtain ⟨q4, q5, q6⟩ := hcuc1.same hcuc2
   obtain ⟨q7, q8⟩ := hadk1.same hadk2
   have hs1 : SameT tk1 tk2 := by rw [q7]; exact SameT.refl _
   have hs2 : nc1 = nc2 ∧ ∀ k, 0 ≤ k → k < nc1 → fc1 k = fc2 k := ⟨q4, q5⟩
   refine zlv xmv ?_
   refine zlv xeql ?_
   refine zlv xmv ?_
   refine zlb 68 ?_ ?_ <;> intro hc
   ·
    iterate 2 refine zlv xmv ?_
    refine zlvr rfl rfl rfl (ex_eqb rfl rfl rfl) ?_
    refine zlv xpt ?_
    refine zlv xmv ?_
    refine zlb 73 ?_ ?_ <;> intro hc
    ·
     iterate 2 refine zlv xmv ?_
     refine zlv xeql ?_
     refine zlv xpt ?_
     refine zlv xmv ?_
     refine zlb 78 ?_ ?_ <;> intro hc
     ·
      iterate 2 refine zlv xmv ?_
      refine zlc (xc0 cl_22) (c_same0 (n := nc1) (m := nc2) (f := fc1) (g := fc2) w (hS.rowN 2 rfl) (hS.rowN 3 rfl)) ?_; rintro _ w ⟨rfl, hS'⟩
      replace hS := hS.cmp hS'; clear hS'
      refine zlv xpt ?_
      refine zlv xmv ?_
      refine zlb 83 ?_ ?_ <;> intro hc
      ·
       iterate 2 refine zlv xmv ?_
       refine zlv xeql ?_
       refine zlv xpt ?_
       refine zlv xmv ?_
       refine zlb 88 ?_ ?_ <;> intro hc
       ·
        refine zlv (xls 8 st_28 hS) ?_
        refine zlv (xls 13 st_25 hS) ?_
        refine zlc (xc0 cl_23) (c_gsame (t := tk1) (u := tk2) w (⟨(hS.rowN 4 rfl), (hS.rowN 5 rfl), (⟨(hS.rowN 6 rfl), fun k k0 k1 => hS.rowIn 7 rfl k0 k1, fun k k0 k1 => hS.roomIn 7 rfl k0 k1⟩ : MAt _ vCk1 tk1.nc vvk1 tk1.ln tk1.C)⟩ : TAt _ vBk1 vFk1 vCk1 vvk1 tk1) (⟨(hS.rowN 9 rfl), (hS.rowN 10 rfl), (⟨(hS.rowN 11 rfl), fun k k0 k1 => hS.rowIn 12 rfl k0 k1, fun k k0 k1 => hS.roomIn 12 rfl k0 k1⟩ : MAt _ vCk2 tk2.nc vvk2 tk2.ln tk2.C)⟩ : TAt _ vBk2 vFk2 vCk2 vvk2 tk2)) ?_; rintro _ w ⟨rfl, hS'⟩
        replace hS := hS.cmp hS'; clear hS'
        refine zlv xpt ?_
        refine zlv xmv ?_
        refine zlb 93 ?_ ?_ <;> intro hc
        ·
         iterate 2 refine zlv xmv ?_
         refine zlv xeql ?_
         refine zlv xpt ?_
         refine zlv xas ?_
         refine zln <| ztn <| zrt <| zf1 ⟨_, rfl, ?_⟩
         exact ⟨(true_B (by first | exact hs1 | exact hs2 | exact q2 | omega)).symm, hS.nl⟩
        ·
         iterate 3 refine zlo ?_
         refine zlv xpf ?_
         refine zlv xas ?_
         refine zln <| ztn <| zrt <| zf1 ⟨_, rfl, ?_⟩
         exfalso
         first | omega | exact absurd hs1 ‹_› | exact absurd hs2 ‹_› | exact absurd q2 ‹_›
       ·
        iterate 3 refine zlo ?_
        refine zlv xpf ?_
        refine zlv xmv ?_
        iterate 3 refine zlo ?_
        refine zlv xpf ?_
        refine zlv xas ?_
        refine zln <| ztn <| zrt <| zf1 ⟨_, rfl, ?_⟩
        exfalso
        first | omega | exact absurd hs1 ‹_› | exact absurd hs2 ‹_› | exact absurd q2 ‹_›
      ·
       iterate 3 refine zlo ?_
       refine zlv xpf ?_
       refine zlv xmv ?_
       iterate 3 refine zlo ?_
       refine zlv xpf ?_
       refine zlv xmv ?_
       iterate 3 refine zlo ?_
       refine zlv xpf ?_
       refine zlv xas ?_
       refine zln <| ztn <| zrt <| zf1 ⟨_, rfl, ?_⟩
       exfalso
       first | omega | exact absurd hs1 ‹_› | exact absurd hs2 ‹_› | exact absurd q2 ‹_›
     ·
      iterate 3 refine zlo ?_
      refine zlv xpf ?_
      refine zlv xmv ?_
      iterate 3 refine zlo ?_
      refine zlv xpf ?_
      refine zlv xmv ?_
      iterate 3 refine zlo ?_
      refine zlv xpf ?_
      refine zlv xmv ?_
      iterate 3 refine zlo ?_
      refine zlv xpf ?_
      refine zlv xas ?_
      refine zln <| ztn <| zrt <| zf1 ⟨_, rfl, ?_⟩
      exfalso
      first | omega | exact absurd hs1 ‹_› | exact absurd hs2 ‹_› | exact absurd q2 ‹_›
    ·
     iterate 3 refine zlo ?_
     refine zlv xpf ?_
     refine zlv xmv ?_
     iterate 3 refine zlo ?_
     refine zlv xpf ?_
     refine zlv xmv ?_
     iterate 3 refine zlo ?_
     refine zlv xpf ?_
     refine zlv xmv ?_
     iterate 3 refine zlo ?_
     refine zlv xpf ?_
     refine zlv xmv ?_
     iterate 3 refine zlo ?_
     refine zlv xpf ?_
     refine zlv xas ?_
     refine zln <| ztn <| zrt <| zf1 ⟨_, rfl, ?_⟩
     exfalso
     first | omega | exact absurd hs1 ‹_› | exact absurd hs2 ‹_› | exact absurd q2 ‹_›
   ·
    iterate 3 refine zlo ?_
    refine zlv xpf ?_
    refine zlv xmv ?_
    iterate 3 refine zlo ?_
    refine zlv xpf ?_
    refine zlv xmv ?_
    iterate 3 refine zlo ?_
    refine zlv xpf ?_
    refine zlv xmv ?_
    iterate 3 refine zlo ?_
    refine zlv xpf ?_
    refine zlv xmv ?_
    iterate 3 refine zlo ?_
    refine zlv xpf ?_
    refine zlv xmv ?_
    iterate 3 refine zlo ?_
    refine zlv xpf ?_
    refine zlv xas ?_
    refine zln <| ztn <| zrt <| zf1 ⟨_, rfl, ?_⟩
    exfalso
    first | omega | exact absurd hs1 ‹_› | exact absurd hs2 ‹_› | exact absurd q2 ‹_›

set_option maxRecDepth 20000 in
theorem law_gsolve {vc vA vb : Value} {vq : Int → Value} {p : Lp} {most : Int} (w0 : World) (hL : LAt w0 vc vA vb vq p) (hmost0 : -9223372036854775808 ≤ most ∧ most ≤ 9223372036854775807) :
    Calls Try.prog 5 [.agg #[vc, vA, vb], .int .i64 most].toArray w0 fun e w => ∃ v, e = .returned v ∧ v = .bool true ∧ Sat w0 w [] := by
  have hn := hL.c.slh.n0; have hn1 := hL.c.slh.n1; have hm := hL.A.row.slh.n0; have hm1 := hL.A.row.slh.n1; have hk := hL.b.slh.n0; have hk1 := hL.b.slh.n1
  refine zenG Try.func5 Try.ntmps5 fun w hS => ?_
  refine zsq <| zrg ?_
  refine zla (xbx (cs := [_, _, _]) hS) ?_; rintro _ w ⟨g1, rfl, hS⟩
  replace hS : Sat w0 w [.blk _ [_, _, _]] := hS
  refine zlv xas ?_
  refine zln <| ztn <| zsq <| zsq <| zrg ?_
  refine zlc (xc0 cl_14) (c_gawake w) ?_; rintro _ w ⟨rfl, hS'⟩
  replace hS := hS.cmp hS'; clear hS'
  refine zlv xnt ?_
  refine zlv xmv ?_
  refine zlv (xls 0 st_44 hS) ?_
  refine zlc (xc0 cl_24) (c_few (p := p) w (hL.below hS.below)) ?_; rintro _ w ⟨rfl, hS'⟩
  replace hS := hS.cmp hS'; clear hS'
  refine zlv xnot ?_
  refine zlv xpf ?_
  refine zln <| ztn ?_
  refine zcif ?_ ?_ <;> intro hc
  ·
   refine zsq <| zrg ?_
   refine zlc (xc0 cl_14) (c_gawake w) ?_; rintro _ w ⟨rfl, hS'⟩
   replace hS := hS.cmp hS'; clear hS'
   refine zlv xas ?_
   refine zln <| ztn <| zrt <| ztr <| zf1 ⟨_, rfl, ?_⟩
   exact ⟨rfl, hS.nl⟩
  ·
   refine zsk <| ztn <| zsq <| zrg ?_
   refine zlv (xls 0 st_44 hS) ?_
   refine zlc (xc0 cl_29) (c_gsolve (p := p) w (hL.below hS.below)) ?_; rintro _ w ⟨xry1, xny1, xfy1, vay1, cuy1, ey1, rfl, hgsy1, hxry1, hS'⟩
   replace hS : Sat w0 w [.blk g1 [vc, vA, vb], .own xry1 1 3 xny1 (ints xfy1)] := hS.comp hS'; clear hS'
   refine zlv xmv ?_
   iterate 4 refine zlv xex ?_
   iterate 4 refine zlv xas ?_
   refine zln <| ztn <| zsq <| zrg ?_
   refine zlv (xls 0 st_44 hS) ?_
   refine zlc (xc0 cl_30) (c_rgsolve (p := p) w (hL.below hS.below)) ?_; rintro _ w ⟨xry2, xny2, xfy2, vay2, cuy2, ey2, rfl, hrgy2, hxry2, hS'⟩
   replace hS : Sat w0 w [.blk g1 [vc, vA, vb], .own xry1 1 3 xny1 (ints xfy1), .own xry2 1 3 xny2 (ints xfy2)] := hS.comp hS'; clear hS'
   refine zlv xmv ?_
   iterate 4 refine zlv xex ?_
   iterate 4 refine zlv xas ?_
   refine zln <| ztn <| zsq <| zrg ?_
   refine zlv (xls 0 st_44 hS) ?_
   refine zlv xmv ?_
   refine zlc (xc0 cl_31) (c_bounds (p := p) (most := most) w (hL.below hS.below) (by omega)) ?_; rintro _ w ⟨xry3, xny3, xfy3, ey3, rfl, hgby3, hxry3, hS'⟩
   replace hS : Sat w0 w [.blk g1 [vc, vA, vb], .own xry1 1 3 xny1 (ints xfy1), .own xry2 1 3 xny2 (ints xfy2), .own xry3 1 3 xny3 (ints xfy3)] := hS.comp hS'; clear hS'
   refine zlv xmv ?_
   iterate 2 refine zlv xex ?_
   iterate 2 refine zlv xas ?_
   refine zln <| ztn <| zsq <| zrg ?_
   refine zlv (xls 0 st_44 hS) ?_
   refine zlv xmv ?_
   refine zlc (xc0 cl_32) (c_rbounds (p := p) (most := most) w (hL.below hS.below) (by omega)) ?_; rintro _ w ⟨xry4, xny4, xfy4, ey4, rfl, hrby4, hxry4, hS'⟩
   replace hS : Sat w0 w [.blk g1 [vc, vA, vb], .own xry1 1 3 xny1 (ints xfy1), .own xry2 1 3 xny2 (ints xfy2), .own xry3 1 3 xny3 (ints xfy3), .own xry4 1 3 xny4 (ints xfy4)] := hS.comp hS'; clear hS'
   refine zlv xmv ?_
   iterate 2 refine zlv xex ?_
   iterate 2 refine zlv xas ?_
   refine zln <| ztn <| zsq <| zrg ?_
   refine zlv xmv ?_
   obtain ⟨q1, q2, q3, q4, q5⟩ := hgsy1.same hm hrgy2
   obtain ⟨q6, q7, q8⟩ := BoundsR.same hm hgby3 hrby4
   have hs1 : xny1 = xny2 ∧ ∀ k, 0 ≤ k → k < xny1 → xfy1 k = xfy2 k := ⟨q1, q2⟩
   have hs2 : xny3 = xny4 ∧ ∀ k, 0 ≤ k → k < xny3 → xfy3 k = xfy4 k := ⟨q6, q7⟩
   refine zlv xmv ?_
   refine zlc (xc0 cl_22) (c_same0 (n := xny1) (m := xny2) (f := xfy1) (g := xfy2) w (hS.rowN 1 rfl) (hS.rowN 2 rfl)) ?_; rintro _ w ⟨rfl, hS'⟩
   replace hS := hS.cmp hS'; clear hS'
   refine zlv xmv ?_
   refine zlb 54 ?_ ?_ <;> intro hc
   ·
    iterate 2 refine zlv xmv ?_
    refine zlv xeql ?_
    refine zlv xpt ?_
    refine zlv xmv ?_
    refine zlb 59 ?_ ?_ <;> intro hc
    ·
     iterate 2 refine zlv xmv ?_
     refine zlv xeql ?_
     refine zlv xpt ?_
     refine zlv xmv ?_
     refine zlb 64 ?_ ?_ <;> intro hc
     ·
      iterate 2 refine zlv xmv ?_
      refine zlv xeql ?_
      refine zlv xpt ?_
      refine zlv xmv ?_
      refine zlb 69 ?_ ?_ <;> intro hc
      ·
       iterate 2 refine zlv xmv ?_
       refine zlc (xc0 cl_22) (c_same0 (n := xny3) (m := xny4) (f := xfy3) (g := xfy4) w (hS.rowN 3 rfl) (hS.rowN 4 rfl)) ?_; rintro _ w ⟨rfl, hS'⟩
       replace hS := hS.cmp hS'; clear hS'
       refine zlv xpt ?_
       refine zlv xmv ?_
       refine zlb 74 ?_ ?_ <;> intro hc
       ·
        iterate 2 refine zlv xmv ?_
        refine zlv xeql ?_
        refine zlv xpt ?_
        refine zlv xas ?_
        refine zln <| ztn <| zrt <| zf1 ⟨_, rfl, ?_⟩
        exact ⟨(true_B (by first | exact hs1 | exact hs2 | omega)).symm, hS.nl⟩
       ·
        iterate 3 refine zlo ?_
        refine zlv xpf ?_
        refine zlv xas ?_
        refine zln <| ztn <| zrt <| zf1 ⟨_, rfl, ?_⟩
        exfalso
        first | omega | exact absurd hs1 ‹_› | exact absurd hs2 ‹_›
      ·
       iterate 3 refine zlo ?_
       refine zlv xpf ?_
       refine zlv xmv ?_
       iterate 3 refine zlo ?_
       refine zlv xpf ?_
       refine zlv xas ?_
       refine zln <| ztn <| zrt <| zf1 ⟨_, rfl, ?_⟩
       exfalso
       first | omega | exact absurd hs1 ‹_› | exact absurd hs2 ‹_›
     ·
      iterate 3 refine zlo ?_
      refine zlv xpf ?_
      refine zlv xmv ?_
      iterate 3 refine zlo ?_
      refine zlv xpf ?_
      refine zlv xmv ?_
      iterate 3 refine zlo ?_
      refine zlv xpf ?_
      refine zlv xas ?_
      refine zln <| ztn <| zrt <| zf1 ⟨_, rfl, ?_⟩
      exfalso
      first | omega | exact absurd hs1 ‹_› | exact absurd hs2 ‹_›
    ·
     iterate 3 refine zlo ?_
     refine zlv xpf ?_
     refine zlv xmv ?_
     iterate 3 refine zlo ?_
     refine zlv xpf ?_
     refine zlv xmv ?_
     iterate 3 refine zlo ?_
     refine zlv xpf ?_
     refine zlv xmv ?_
     iterate 3 refine zlo ?_
     refine zlv xpf ?_
     refine zlv xas ?_
     refine zln <| ztn <| zrt <| zf1 ⟨_, rfl, ?_⟩
     exfalso
     first | omega | exact absurd hs1 ‹_› | exact absurd hs2 ‹_›
   ·
    iterate 3 refine zlo ?_
    refine zlv xpf ?_
    refine zlv xmv ?_
    iterate 3 refine zlo ?_
    refine zlv xpf ?_
    refine zlv xmv ?_
    iterate 3 refine zlo ?_
    refine zlv xpf ?_
    refine zlv xmv ?_
    iterate 3 refine zlo ?_
    refine zlv xpf ?_
    refine zlv xmv ?_
    iterate 3 refine zlo ?_
    refine zlv xpf ?_
    refine zlv xas ?_
    refine zln <| ztn <| zrt <| zf1 ⟨_, rfl, ?_⟩
    exfalso
    first | omega | exact absurd hs1 ‹_› | exact absurd hs2 ‹_›

theorem gfr_of_dvd {u : Tb} (hp : TPrp u) (h0 : 0 ≤ u.nb) (h : ∀ j, 0 ≤ j → j < u.vars → u.den ∣ bas u u.nb.toNat j) : gfr u u.nb.toNat < 0 := by
  have hr := gfr_rng u u.nb.toNat
  by_cases hz : 0 ≤ gfr u u.nb.toNat
  · exfalso
    obtain ⟨h1, h2⟩ := (gfr_law u u.nb.toNat).2 hz
    have h3 := bas_at hp u.nb.toNat (by omega) (gfr u u.nb.toNat) hz (by omega)
    have h4 := h (u.B (gfr u u.nb.toNat)) (hp.rngB hz (by omega)).1 h1
    rw [h3] at h4
    exact h2 (Int.tmod_eq_zero_of_dvd h4)
  · omega
/-- The numbers and the value of Solve, times the denominator of the last tableau. -/
theorem gsol_val {p : Lp} (hm : 0 ≤ p.m) {us : List Tb} {t u : Tb} (hr : Rn p us t 0) (ho : OptR t u 0) (hf : gfr u u.nb.toNat < 0) {n val : Int} {f : Int → Int} (h1 : n = u.nf) (h3 : ∀ j, 0 ≤ j → j < n → f j = (bas u u.nb.toNat j).tdiv u.den) (h4 : val = dotp f p.c n.toNat) :
    n = p.n ∧ (∀ j, 0 ≤ j → j < n → f j * u.den = bas u u.nb.toNat j) ∧ val * u.den = u.C 0 0 ∧ 0 ≤ u.nb := by
  have hp := ho.prp.1
  have hv := hp.v
  have hd := hp.d1
  have hdm := hr.dims rfl
  have hod := ho.dims
  have hl := hr.len rfl hm
  have hl2 := ho.prp.2
  have h0 : 0 ≤ u.nb := by omega
  have hg := (gval hm hr ho h0).1
  have hx : ∀ k : Int, 0 ≤ k → k < n.toNat → bas u u.nb.toNat k = u.den * f k := fun k k0 k1 => by
    rw [h3 k k0 (by omega), Int.mul_tdiv_cancel' (whole_dvd ho hf (by omega))]
  have hw := dotp_div (n := n.toNat) hx p.c
  rw [dotp_comm, show n.toNat = p.n.toNat by omega, ← hg, show p.n.toNat = n.toNat by omega] at hw
  exact ⟨by omega, fun j j0 j1 => by rw [hx j j0 (by omega), Int.mul_comm], by rw [h4, hw, Int.mul_comm], h0⟩
theorem run_opt {p : Lp} {u : Tb} {e : Int} (h : Run 1000 (startT p) u e) : (e ≠ 0 → OptR (startT p) Tb.zero e) ∧ (e = 0 → OptR (startT p) u 0) :=
  ⟨fun he => ⟨u, e, h, .inr ⟨he, rfl, rfl⟩⟩, fun he => ⟨u, e, h, .inl ⟨he, rfl, rfl⟩⟩⟩
theorem endE {t : Tb} {e e0 : Int} (h : (e0 = e ∧ e0 ≠ 0) ∨ (e0 = 0 ∧ ∃ u, OptR t u e)) (he : e ≠ 0) : RnEnd t e0 := by
  rcases h with ⟨_, h⟩ | ⟨h, u, ho⟩
  · exact .inl h
  · exact .inr (.inl ⟨u, _, ho, he⟩)
/-- No cut is needed exactly if the best solution consists of whole numbers. -/
theorem whole_law {p : Lp} (hm : 0 ≤ p.m) (hl : LOk p) {s : So} {e n val cuts e2 : Int} {f : Int → Int} (hs : SolveR p s e) (hg : GSolveR p n f val cuts e2) :
    (e ≠ 0 → e2 = e) ∧ (e = 0 → s.n = p.n ∧ (e2 = 0 → n = p.n ∧ -1073741824 ≤ val ∧ val ≤ 1073741824 ∧ ∀ j, 0 ≤ j → j < n → -1073741824 ≤ f j ∧ f j ≤ 1073741824) ∧ (¬ (∀ j, 0 ≤ j → j < s.n → (s.X j).tmod s.den = 0) → e2 ≠ 0 ∨ (0 < cuts ∧ s.val ≤ val * s.den)) ∧
      ((∀ j, 0 ≤ j → j < s.n → (s.X j).tmod s.den = 0) → e2 = 0 ∧ cuts = 0 ∧ val * s.den = s.val ∧ n = s.n ∧ ∀ j, 0 ≤ j → j < n → f j * s.den = s.X j)) := by
  have r0 : Rn p [] (startT p) 0 := .start (.inr ⟨hl, rfl, rfl⟩)
  have hchk := hs.chk hm
  rcases hs with ⟨h, _⟩ | ⟨_, u, hrun, hc⟩
  · exact absurd hl h
  refine ⟨fun he => ?_, fun he => ?_⟩
  · have ho := (run_opt hrun).1 he
    have hE : RnEnd (startT p) 0 := .inr (.inl ⟨_, e, ho, he⟩)
    rcases hg with ⟨ge, _, _, _, us, t, e0, hr, hc2⟩ | ⟨ge, us, t, u2, hr, ho2, hp, hf, _⟩
    · obtain ⟨rfl, rfl, rfl⟩ := r0.same hr hE (endE hc2 ge)
      rcases hc2 with ⟨_, h⟩ | ⟨_, u2, h⟩
      · exact absurd rfl h
      · exact (OptR.same h ho).2
    · obtain ⟨rfl, rfl, _⟩ := r0.same hr hE (.inr (.inr ⟨u2, ho2, hf⟩))
      exact absurd (OptR.same ho ho2).2 he
  · subst he
    obtain rfl : s = readS u := hc.elim (fun h => absurd rfl h.1) (fun h => h.2)
    have ho := (run_opt hrun).2 rfl
    have hck := hchk rfl
    have hp := ho.prp.1
    have hod := ho.dims
    have hv := hp.v
    have hd := hp.d1
    have hn0 : (startT p).nf = p.n := rfl
    have hnb : u.nb = p.m := ho.prp.2
    have hX : ∀ j, 0 ≤ j → j < u.nf → (readS u).X j = bas u u.nb.toNat j := fun j j0 j1 => rdX_bas u (by omega) _
    have whole : (∀ j, 0 ≤ j → j < u.nf → ((readS u).X j).tmod u.den = 0) → gfr u u.nb.toNat < 0 := fun h => gfr_of_dvd hp (by omega) fun j j0 j1 => by
      have := h j j0 (by omega); rw [hX j j0 (by omega)] at this; exact Int.dvd_of_tmod_eq_zero this
    refine ⟨hck.n, fun h2 => ?_, fun hnot => ?_, fun hall => ?_⟩
    · subst h2
      rcases hg with ⟨ge, _⟩ | ⟨_, us, t, u2, hr, ho2, hp2, hf, _, h1, h3, h4⟩
      · exact absurd rfl ge
      · obtain ⟨g1, g2, g3, g4⟩ := gsol_val hm hr ho2 hf h1 h3 h4
        have hc0 := hp2.cell (i := 0) (j := 0) (by omega) (by have := hp2.c; omega) (by omega) (by have := hp2.n1; omega)
        have hv2 : val = (u2.C 0 0).tdiv u2.den := by rw [← g3, Int.mul_tdiv_cancel _ (by have := hp2.d1; omega)]
        have hb := tdiv_abs hp2.d1 hc0
        refine ⟨g1, by omega, by omega, fun j j0 j1 => ?_⟩
        have hbr := bas_rng hp2 ho2.fin.2 j u2.nb.toNat (by omega)
        have := tdiv_abs (A := 1073741824) hp2.d1 (a := bas u2 u2.nb.toNat j) (by omega)
        rw [h3 j j0 j1]; exact this
    · rcases hg with ⟨ge, _⟩ | ⟨_, us, t, u2, hr, ho2, hp2, hf, hcu, h1, h3, h4⟩
      · exact .inl ge
      · right
        obtain ⟨g1, g2, g3, g4⟩ := gsol_val hm hr ho2 hf h1 h3 h4
        have hd2 := hp2.d1
        refine ⟨?_, ?_⟩
        · cases us with
          | cons => simp at hcu; omega
          | nil =>
            exfalso
            obtain ⟨_, rfl, _⟩ := hr.eqlen r0 rfl
            obtain ⟨rfl, _⟩ := OptR.same ho ho2
            exact hnot fun j j0 j1 => by
              rw [hX j j0 j1]; exact Int.tmod_eq_zero_of_dvd (whole_dvd ho hf (by have : j < u.nf := j1; omega))
        · have hbest := chk_best hck hm (x := f) (fun j j0 j1 => by
            have := bas_nn ho2 j; rw [← g2 j j0 (by omega)] at this
            exact Int.not_lt.1 fun hh => by have := Int.mul_neg_of_neg_of_pos hh (show 0 < u2.den by omega); omega) (fun i i0 i1 => by
            have h5 := (gval hm hr ho2 g4).2 i i0 i1
            have h6 := bas_nn ho2 (p.n + i)
            have h7 : dotp (p.A i) (bas u2 u2.nb.toNat) p.n.toNat = dotp (p.A i) f p.n.toNat * u2.den := by
              rw [dotp_comm, dotp_comm (p.A i), ← dotp_scale]
              exact sumTo_congr fun j j0 j1 => by show _ * _ = _ * _; rw [← g2 j j0 (by omega)]
            rw [h5, h7] at h6
            have h8 : p.b i * u2.den ≤ dotp (p.A i) f p.n.toNat * u2.den := by omega
            exact Int.le_of_mul_le_mul_right h8 (by omega))
          rw [h4, dotp_comm, g1]; exact hbest
    · have hf := whole hall
      rcases hg with ⟨ge, _, _, _, us, t, e0, hr, hc2⟩ | ⟨ge, us, t, u2, hr, ho2, hp2, hf2, hcu, h1, h3, h4⟩
      · exfalso
        obtain ⟨rfl, rfl, rfl⟩ := r0.same hr (.inr (.inr ⟨u, ho, hf⟩)) (endE hc2 ge)
        rcases hc2 with ⟨_, h⟩ | ⟨_, u2, h⟩
        · exact h rfl
        · exact ge (OptR.same h ho).2
      · obtain ⟨rfl, rfl, _⟩ := r0.same hr (.inr (.inr ⟨u, ho, hf⟩)) (.inr (.inr ⟨u2, ho2, hf2⟩))
        obtain ⟨rfl, _⟩ := OptR.same ho ho2
        obtain ⟨g1, g2, g3, g4⟩ := gsol_val hm hr ho hf h1 h3 h4
        exact ⟨ge, by rw [hcu]; rfl, g3, h1, fun j j0 j1 => by rw [hX j j0 (by omega)]; exact g2 j j0 j1⟩

set_option maxRecDepth 20000 in
theorem law_whole {vc vA vb : Value} {vq : Int → Value} {p : Lp} (w0 : World) (hL : LAt w0 vc vA vb vq p) :
    Calls Try.prog 7 [.agg #[vc, vA, vb]].toArray w0 fun e w => ∃ v, e = .returned v ∧ v = .bool true ∧ Sat w0 w [] := by
  have hn := hL.c.slh.n0; have hn1 := hL.c.slh.n1; have hm := hL.A.row.slh.n0; have hm1 := hL.A.row.slh.n1; have hk := hL.b.slh.n0; have hk1 := hL.b.slh.n1
  refine zenG Try.func7 Try.ntmps7 fun w hS => ?_
  refine zsq <| zrg ?_
  refine zla (xbx (cs := [_, _, _]) hS) ?_; rintro _ w ⟨g1, rfl, hS⟩
  replace hS : Sat w0 w [.blk _ [_, _, _]] := hS
  refine zlv xas ?_
  refine zln <| ztn <| zsq <| zsq <| zrg ?_
  refine zlc (xc0 cl_14) (c_gawake w) ?_; rintro _ w ⟨rfl, hS'⟩
  replace hS := hS.cmp hS'; clear hS'
  refine zlv xnt ?_
  refine zlv xmv ?_
  refine zlv (xls 0 st_44 hS) ?_
  refine zlc (xc0 cl_24) (c_few (p := p) w (hL.below hS.below)) ?_; rintro _ w ⟨rfl, hS'⟩
  replace hS := hS.cmp hS'; clear hS'
  refine zlv xnot ?_
  refine zlv xpf ?_
  refine zlv xmv ?_
  refine zlb 20 ?_ ?_ <;> intro hc
  ·
   iterate 3 refine zlo ?_
   refine zlv xpt ?_
   refine zln <| ztn <| zct <| zsq <| zrg ?_
   refine zlc (xc0 cl_14) (c_gawake w) ?_; rintro _ w ⟨rfl, hS'⟩
   replace hS := hS.cmp hS'; clear hS'
   refine zlv xas ?_
   refine zln <| ztn <| zrt <| ztr <| zf1 ⟨_, rfl, ?_⟩
   exact ⟨rfl, hS.nl⟩
  ·
   refine zlv (xls 0 st_44 hS) ?_
   refine zlc (xc0 cl_25) (c_rvalid (p := p) w (hL.below hS.below)) ?_; rintro _ w ⟨rfl, hS'⟩
   replace hS := hS.cmp hS'; clear hS'
   refine zlv xnot ?_
   refine zlv xpf ?_
   refine zln <| ztn ?_
   refine zcif ?_ ?_ <;> intro hc
   ·
    refine zsq <| zrg ?_
    refine zlc (xc0 cl_14) (c_gawake w) ?_; rintro _ w ⟨rfl, hS'⟩
    replace hS := hS.cmp hS'; clear hS'
    refine zlv xas ?_
    refine zln <| ztn <| zrt <| ztr <| zf1 ⟨_, rfl, ?_⟩
    exact ⟨rfl, hS.nl⟩
   ·
    refine zsk <| ztn <| zsq <| zrg ?_
    refine zlv (xls 0 st_44 hS) ?_
    have hl : LOk p := by first | assumption | exact Classical.not_not.1 ‹¬ ¬ (LOk p)›
    have b1 := hl.n1; have b2 := hl.n2; have b3 := hl.m2; have b4 := hl.k
    refine zlc (xc0 cl_33) (c_solve (p := p) w (hL.below hS.below)) ?_; rintro _ w ⟨vXs1, vYs1, ss1, es1, rfl, hsos1, hvXs1, hvYs1, hS'⟩
    replace hS : Sat w0 w [.blk g1 [vc, vA, vb], .own vXs1 1 3 ss1.n (ints ss1.X), .own vYs1 1 3 ss1.m (ints ss1.Y)] := hS.comp hS'; clear hS'
    refine zlv xmv ?_
    iterate 2 refine zlv xex ?_
    refine zla (xal (cs := [_, _, _, _]) el_60 hS) ?_; rintro _ w ⟨g2, rfl, hS⟩
    replace hS : Sat w0 w [.blk _ [_, _, _], _, _, .blk _ [_, _, _, _]] := hS
    refine zle (xsw 3 st_60 hS (hd := (ones_cons hvXs1.one (ones_cons hvYs1.one (ones_cons rfl (ones_cons rfl ones_nil)))))) ?_; clear hS; rintro w hS
    replace hS : Sat w0 w [.blk _ [_, _, _], _, _, .blk _ [_, _, _, _]] := hS
    refine zlv xas ?_
    refine zln <| ztn <| zsq <| zrg ?_
    refine zlv (xls 0 st_44 hS) ?_
    refine zlc (xc0 cl_29) (c_gsolve (p := p) w (hL.below hS.below)) ?_; rintro _ w ⟨xry1, xny1, xfy1, vay1, cuy1, ey1, rfl, hgsy1, hxry1, hS'⟩
    replace hS : Sat w0 w [.blk g1 [vc, vA, vb], .own vXs1 1 3 ss1.n (ints ss1.X), .own vYs1 1 3 ss1.m (ints ss1.Y), .blk g2 [vXs1, vYs1, .int .i64 ss1.val, .int .i64 ss1.den], .own xry1 1 3 xny1 (ints xfy1)] := hS.comp hS'; clear hS'
    refine zlv xmv ?_
    iterate 4 refine zlv xex ?_
    iterate 4 refine zlv xas ?_
    refine zln <| ztn <| zsq <| zsq <| zrg ?_
    refine zlv xmv ?_
    refine zlv xneq ?_
    refine zln <| ztn ?_
    refine zcif ?_ ?_ <;> intro hc
    ·
     refine zsq <| zrg ?_
     iterate 2 refine zlv xmv ?_
     refine zlv xeql ?_
     refine zlv xas ?_
     refine zln <| ztn <| zrt <| ztr <| zf1 ⟨_, rfl, ?_⟩
     exact ⟨(true_B (by first | exact (whole_law hm hl hsos1 hgsy1).1 (by omega) | omega)).symm, hS.nl⟩
    ·
     refine zsk <| ztn <| zsq <| zrg ?_
     refine zlv (xfb 3 fd_60_3) ?_
     obtain ⟨_, wl2⟩ := whole_law hm hl hsos1 hgsy1
     obtain ⟨wl2, wl3, wl4, wl5⟩ := wl2 (by omega)
     have hck := hsos1.chk hm (by omega)
     have hk1 := hck.d1; have hk2 := hck.d2; have hkn := hck.n; have hkm := hck.m; have hkv := hck.v; have hkX := hck.X; have hyn := hxry1.n0
     refine zlv (xlb 3 pl_3 hS) ?_
     refine zlv xgtr ?_
     refine zlv xas ?_
     refine zln <| ztn <| zsq <| zsq <| zrg ?_
     refine zlv (xfb 0 fd_60_0) ?_
     refine zlv (xlb 3 pl_22 hS) ?_
     refine zlv (xln sl_22 hvXs1) ?_
     refine zlv xmv ?_
     refine zln <| ztn <| zbk <| zlp (fun mm M w => ∃ (sm : Prop) (j : Int), mm = ((ss1.n - j).toNat) ∧ (0 ≤ j) ∧ (j ≤ ss1.n) ∧ (sm ↔ (∀ k, 0 ≤ k → k < j → (ss1.X k).tmod ss1.den = 0)) ∧ M = [(2, .bool false), (3, .pointer (some ⟨g2, 0, none⟩)), (5, xry1), (6, .int .i64 vay1), (7, .int .i64 cuy1), (8, .int .i64 ey1), (9, B (sm)), (47, vXs1), (48, .int .i64 ss1.n), (49, .int .i64 j)] ∧ Sat w0 w [.blk g1 [vc, vA, vb], .own vXs1 1 3 ss1.n (ints ss1.X), .own vYs1 1 3 ss1.m (ints ss1.Y), .blk g2 [vXs1, vYs1, .int .i64 ss1.val, .int .i64 ss1.den], .own xry1 1 3 xny1 (ints xfy1)]) ⟨0 < ss1.den, 0, rfl, (by omega), (by omega), ?_, rfl, hS⟩ ?_
     ·
      exact ⟨fun _ k k0 k1 => by omega, fun _ => by omega⟩
     ·
      clear hS w
      rintro mm M w ⟨sm, j, rfl, j0, j1, hsm, rfl, hS⟩
      refine zsq <| zrg ?_
      refine zlv xlss ?_
      refine zln <| ztn <| zsq ?_
      refine zcif ?_ ?_ <;> intro hc
      ·
       refine zsk <| ztn <| zsq <| zbk <| zsq <| zrg ?_
       refine zlv (xix (kk := j) sl_22 hvXs1) ?_
       refine zlv (xlr (u := .int .i64 (ss1.X j)) pl_3 (hS.rowN 1 rfl)) ?_
       refine zlv xas ?_
       refine zln <| ztn <| zrg ?_
       iterate 2 refine zlv xmv ?_
       refine zlb 54 ?_ ?_ <;> intro hc
       ·
        refine zlv xmv ?_
        have hkj := hkX j j0 (by omega)
        refine zlv (xfb 3 fd_60_3) ?_
        refine zlv (xlb 3 pl_3 hS) ?_
        refine zlv (xrem (r := (Int.tmod (ss1.X j) ss1.den))) ?_
        refine zlv xeql ?_
        refine zlv xpt ?_
        refine zlv xas ?_
        refine zln <| zbn <| ztn <| zrg ?_
        refine zlv (xadd (r := j + 1)) ?_
        refine zlv xmv ?_
        refine zln <| zlq ⟨(Int.tmod (ss1.X j) ss1.den) = 0, j + 1, rfl, (by omega), (by omega), ?_, rfl, hS⟩
        ·
         refine ⟨fun hx k k0 k1 => ?_, fun hx => ?_⟩
         · by_cases e9 : k = j
           · rw [e9]; first | exact hx | exact absurd hx ‹_› | exact hx.elim
           · first | exact hx.elim | exact hsm.1 (by assumption) k k0 (by omega)
         · first | exact hx j (by omega) (by omega) | exact hsm.2 fun k k0 k1 => hx k k0 (by omega) | exact absurd (hsm.2 fun k k0 k1 => hx k k0 (by omega)) ‹_›
       ·
        iterate 5 refine zlo ?_
        refine zlv xpf ?_
        refine zlv xas ?_
        refine zln <| zbn <| ztn <| zrg ?_
        refine zlv (xadd (r := j + 1)) ?_
        refine zlv xmv ?_
        refine zln <| zlq ⟨False, j + 1, rfl, (by omega), (by omega), ?_, rfl, hS⟩ (hM := by repeat' first | exact zpk0 | refine zpk rfl ?_ | refine zpk (congrArg some (B_false not_false).symm) ?_ | refine zpk (congrArg some (B_true trivial).symm) ?_)
        ·
         refine ⟨fun hx k k0 k1 => ?_, fun hx => ?_⟩
         · by_cases e9 : k = j
           · rw [e9]; first | exact hx | exact absurd hx ‹_› | exact hx.elim
           · first | exact hx.elim | exact hsm.1 (by assumption) k k0 (by omega)
         · first | exact hx j (by omega) (by omega) | exact hsm.2 fun k k0 k1 => hx k k0 (by omega) | exact absurd (hsm.2 fun k k0 k1 => hx k k0 (by omega)) ‹_›
      ·
       refine zxt <| ztx <| ztx <| zbh <| ztn <| zsq <| zsq <| zrg ?_
       refine zlv xmv ?_
       refine zlv xnot ?_
       refine zln <| ztn ?_
       refine zcif ?_ ?_ <;> intro hc
       ·
        refine zsq <| zrg ?_
        refine zlv xmv ?_
        have w4 := wl4 (fun hh => absurd (hsm.2 fun k k0 k1 => hh k k0 (by omega)) ‹¬ sm›)
        refine zlv xneq ?_
        refine zlv xmv ?_
        refine zlb 66 ?_ ?_ <;> intro hc
        ·
         iterate 11 refine zlo ?_
         refine zlv xpt ?_
         refine zlv xas ?_
         refine zln <| ztn <| zrt <| ztr <| zf1 ⟨_, rfl, ?_⟩
         exact ⟨rfl, hS.nl⟩
        ·
         refine zlv xmv ?_
         refine zlv xgtr ?_
         refine zlv xmv ?_
         refine zlb 69 ?_ ?_ <;> intro hc
         ·
          refine zlv xmv ?_
          obtain ⟨_, v1, v2, _⟩ := wl3 (by omega)
          have hmu := mul_abs (a := vay1) (A := 1073741824) ⟨v1, v2⟩ (show -1073741824 ≤ ss1.den ∧ ss1.den ≤ 1073741824 by omega)
          refine zlv (xfb 3 fd_60_3) ?_
          refine zlv (xlb 3 pl_3 hS) ?_
          refine zlv (xmul (r := (vay1 * ss1.den)) (e := rfl)) ?_
          refine zlv (xfb 2 fd_60_2) ?_
          refine zlv (xlb 3 pl_3 hS) ?_
          refine zlv xgeq ?_
          refine zlv xpt ?_
          refine zlv xpf ?_
          refine zlv xas ?_
          refine zln <| ztn <| zrt <| ztr <| zf1 ⟨_, rfl, ?_⟩
          exact ⟨(true_B (by first | exact (whole_law hm hl hsos1 hgsy1).1 (by omega) | omega)).symm, hS.nl⟩
         ·
          iterate 7 refine zlo ?_
          iterate 2 refine zlv xpf ?_
          refine zlv xas ?_
          refine zln <| ztn <| zrt <| ztr <| zf1 ⟨_, rfl, ?_⟩
          exfalso
          first | omega | (have := w9 i (by omega) (by omega); omega)
       ·
        refine zsk <| ztn <| zsq <| zsq <| zrg ?_
        refine zlv xmv ?_
        obtain ⟨w5, w6, w7, w8, w9⟩ := wl5 (fun k k0 k1 => hsm.1 (by first | assumption | exact Classical.not_not.1 ‹_›) k k0 (by omega))
        obtain ⟨_, v1, v2, v3⟩ := wl3 w5
        have hmu := mul_abs (a := vay1) (A := 1073741824) ⟨v1, v2⟩ (show -1073741824 ≤ ss1.den ∧ ss1.den ≤ 1073741824 by omega)
        refine zlv xneq ?_
        refine zlv xmv ?_
        refine zlb 81 ?_ ?_ <;> intro hc
        ·
         iterate 2 refine zlo ?_
         refine zlv xpt ?_
         refine zlv xmv ?_
         iterate 7 refine zlo ?_
         refine zlv xpt ?_
         refine zlv xmv ?_
         iterate 6 refine zlo ?_
         refine zlv xpt ?_
         refine zln <| ztn <| zct <| zsq <| zrg ?_
         refine zlv xas ?_
         refine zln <| ztn <| zrt <| ztr <| zf1 ⟨_, rfl, ?_⟩
         exfalso
         first | omega | (have := w9 i (by omega) (by omega); omega)
        ·
         refine zlv xmv ?_
         refine zlv xneq ?_
         refine zlv xpf ?_
         refine zlv xmv ?_
         refine zlb 85 ?_ ?_ <;> intro hc
         ·
          iterate 7 refine zlo ?_
          refine zlv xpt ?_
          refine zlv xmv ?_
          iterate 6 refine zlo ?_
          refine zlv xpt ?_
          refine zln <| ztn <| zct <| zsq <| zrg ?_
          refine zlv xas ?_
          refine zln <| ztn <| zrt <| ztr <| zf1 ⟨_, rfl, ?_⟩
          exfalso
          first | omega | (have := w9 i (by omega) (by omega); omega)
         ·
          refine zlv xmv ?_
          refine zlv (xfb 3 fd_60_3) ?_
          refine zlv (xlb 3 pl_3 hS) ?_
          refine zlv (xmul (r := (vay1 * ss1.den)) (e := rfl)) ?_
          refine zlv (xfb 2 fd_60_2) ?_
          refine zlv (xlb 3 pl_3 hS) ?_
          refine zlv xneq ?_
          refine zlv xpf ?_
          refine zlv xmv ?_
          refine zlb 94 ?_ ?_ <;> intro hc
          ·
           iterate 6 refine zlo ?_
           refine zlv xpt ?_
           refine zln <| ztn <| zct <| zsq <| zrg ?_
           refine zlv xas ?_
           refine zln <| ztn <| zrt <| ztr <| zf1 ⟨_, rfl, ?_⟩
           exfalso
           first | omega | (have := w9 i (by omega) (by omega); omega)
          ·
           refine zlv xmv ?_
           refine zlv (xln sl_22 hxry1) ?_
           refine zlv (xfb 0 fd_60_0) ?_
           refine zlv (xlb 3 pl_22 hS) ?_
           refine zlv (xln sl_22 hvXs1) ?_
           refine zlv xneq ?_
           refine zlv xpf ?_
           refine zln <| ztn ?_
           refine zcif ?_ ?_ <;> intro hc
           ·
            refine zsq <| zrg ?_
            refine zlv xas ?_
            refine zln <| ztn <| zrt <| ztr <| zf1 ⟨_, rfl, ?_⟩
            exfalso
            first | omega | (have := w9 i (by omega) (by omega); omega)
           ·
            refine zsk <| ztn <| zsq <| zsq <| zrg ?_
            refine zlv xmv ?_
            refine zlv (xln sl_22 hxry1) ?_
            refine zlv xmv ?_
            refine zln <| ztn <| zbk <| zlp (fun mm M w => ∃ (i : Int), mm = ((xny1 - i).toNat) ∧ (0 ≤ i) ∧ (i ≤ xny1) ∧ M = [(3, .pointer (some ⟨g2, 0, none⟩)), (5, xry1), (103, .int .i64 xny1), (104, .int .i64 i)] ∧ Sat w0 w [.blk g1 [vc, vA, vb], .own vXs1 1 3 ss1.n (ints ss1.X), .own vYs1 1 3 ss1.m (ints ss1.Y), .blk g2 [vXs1, vYs1, .int .i64 ss1.val, .int .i64 ss1.den], .own xry1 1 3 xny1 (ints xfy1)]) ⟨0, rfl, (by omega), (by omega), rfl, hS⟩ ?_
            ·
             clear hS w
             rintro mm M w ⟨i, rfl, i0, i1, rfl, hS⟩
             refine zsq <| zrg ?_
             refine zlv xlss ?_
             refine zln <| ztn <| zsq ?_
             refine zcif ?_ ?_ <;> intro hc
             ·
              refine zsk <| ztn <| zsq <| zbk <| zsq <| zrg ?_
              refine zlv xmv ?_
              refine zlv xas ?_
              refine zln <| ztn <| zsq ?_
              refine zdst [0, 1, 2, 3, 4] [0, 1, 2, 3, 4] 1000 mx_ hS ?_; clear hS; intro w hS
              refine zdv 0 (fun _ => xmv) ?_
              refine zdv 1 (fun _ => xmv) ?_
              refine zdv 2 (fun _ => (xix (kk := i) sl_22 hxry1)) ?_
              refine zdla 3 (fun w hS => (xlr (u := .int .i64 (xfy1 i)) pl_3 (hS.rowN 4 rfl))) ?_
              have hmi := mul_abs (a := xfy1 i) (A := 1073741824) (v3 i i0 (by omega)) (show -1073741824 ≤ ss1.den ∧ ss1.den ≤ 1073741824 by omega)
              refine zdv 4 (fun _ => (xfb 3 fd_60_3)) ?_
              refine zdla 5 (fun w hS => (xlb 3 pl_3 hS)) ?_
              refine zdv 6 (fun _ => (xmul (r := ((xfy1 i) * ss1.den)) (e := rfl))) ?_
              refine zdv 7 (fun _ => (xfb 0 fd_60_0)) ?_
              refine zdla 8 (fun w hS => (xlb 3 pl_22 hS)) ?_
              refine zdv 9 (fun _ => xmv) ?_
              refine zdv 10 (fun _ => (xix (kk := i) sl_22 hvXs1)) ?_
              refine zdla 11 (fun w hS => (xlr (u := .int .i64 (ss1.X i)) pl_3 (hS.rowN 1 rfl))) ?_
              refine zdv 12 (fun _ => xneq) ?_
              refine zdd <| ztn ?_
              refine zcif ?_ ?_ <;> intro hc
              ·
               refine zsq <| zrg ?_
               refine zlv xas ?_
               refine zln <| ztn <| zrt <| zbr <| ztr <| ztr <| zbr <| ztr <| zf1 ⟨_, rfl, ?_⟩
               exfalso
               first | omega | (have := w9 i (by omega) (by omega); omega)
              ·
               refine zsk <| zbn <| ztn <| zrg ?_
               refine zlv (xadd (r := i + 1)) ?_
               refine zlv xmv ?_
               refine zln <| zlq ⟨i + 1, rfl, (by omega), (by omega), rfl, hS⟩
             ·
              refine zxt <| ztx <| ztx <| zbh <| ztn <| zsq <| zrg ?_
              refine zlv xas ?_
              refine zln <| ztn <| zrt <| zf1 ⟨_, rfl, ?_⟩
              exact ⟨rfl, hS.nl⟩

end Go.Proofs.Ytelfplepnodbgaa
