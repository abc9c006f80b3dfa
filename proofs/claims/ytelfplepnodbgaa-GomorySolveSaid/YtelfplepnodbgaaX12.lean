/- The walk of GomoryCut. -/
import Derived.Test.YtelfplepnodbgaaGc
import Derived.Test.YtelfplepnodbgaaX11
namespace Go.Proofs.Ytelfplepnodbgaa
open Go Go.RowKit Go.Proofs.Gw
set_option linter.unusedVariables false

theorem cl_14 : calledT Try.prog 14 = true := by kernel_rfl
theorem cl_15 : calledT Try.prog 15 = true := by kernel_rfl
theorem cl_23 : calledT Try.prog 23 = true := by kernel_rfl
theorem eqlB (w : World) (a b : Bool) : (binOp .eql 4 (.bool a) (.bool b)).run Try.prog w = .ok (.bool (a == b)) w := by
  cases a <;> cases b <;> kernel_rfl
theorem ex_eqb {L : List (Nat × Value)} {w : World} {o : Oper} {x y : Operand} {T' : TypeId} {p q : Prop} (ho : o.op = .binOp .eql 4 x y T') (hx : evL L x = some (B p)) (hy : evL L y = some (B q)) : Runs Try.prog L w o (.value (B (p ↔ q))) w := fun ρ h => by
  by_cases hp : p <;> by_cases hq : q
  · rw [B_true hp] at hx; rw [B_true hq] at hy; rw [B_true (show p ↔ q from ⟨fun _ => hq, fun _ => hp⟩)]; simp [execOp, ho, h _ _ hx, h _ _ hy, eqlB]; rfl
  · rw [B_true hp] at hx; rw [B_false hq] at hy; rw [B_false (show ¬ (p ↔ q) from fun e => hq (e.1 hp))]; simp [execOp, ho, h _ _ hx, h _ _ hy, eqlB]; rfl
  · rw [B_false hp] at hx; rw [B_true hq] at hy; rw [B_false (show ¬ (p ↔ q) from fun e => hp (e.2 hq))]; simp [execOp, ho, h _ _ hx, h _ _ hy, eqlB]; rfl
  · rw [B_false hp] at hx; rw [B_false hq] at hy; rw [B_true (show p ↔ q from ⟨fun e => absurd e hp, fun e => absurd e hq⟩)]; simp [execOp, ho, h _ _ hx, h _ _ hy, eqlB]; rfl

theorem SameT.refl (t : Tb) : SameT t t := ⟨rfl, rfl, ⟨rfl, fun _ _ _ => rfl⟩, ⟨rfl, fun _ _ _ => rfl⟩, rfl, fun _ _ _ => ⟨rfl, fun _ _ _ => rfl⟩⟩

set_option maxRecDepth 20000 in
theorem law_gcut {vB vF vC : Value} {vv : Int → Value} {t : Tb} {row : Int} (w0 : World) (hT : TAt w0 vB vF vC vv t) (hrow0 : -9223372036854775808 ≤ row ∧ row ≤ 9223372036854775807) :
    Calls Try.prog 3 [.agg #[.int .i64 t.vars, .int .i64 t.den, vB, vF, vC], .int .i64 row].toArray w0 fun e w => ∃ v, e = .returned v ∧ v = .bool true ∧ Sat w0 w [] := by
  have hn := hT.F.slh.n0; have hn1 := hT.F.slh.n1; have hb := hT.B.slh.n0; have hb1 := hT.B.slh.n1; have hc0 := hT.C.row.slh.n0; have hc1 := hT.C.row.slh.n1
  refine zenG Try.func3 Try.ntmps3 fun w hS => ?_
  refine zsq <| zrg ?_
  refine zla (xbx (cs := [_, _, _, _, _]) hS) ?_; rintro _ w ⟨g1, rfl, hS⟩
  replace hS : Sat w0 w [.blk _ [_, _, _, _, _]] := hS
  refine zlv xas ?_
  refine zln <| ztn <| zsq <| zsq <| zrg ?_
  refine zlc (xc0 cl_14) (c_gawake w) ?_; rintro _ w ⟨rfl, hS'⟩
  replace hS := hS.cmp hS'; clear hS'
  refine zlv xnt ?_
  refine zlv xmv ?_
  refine zlv (xls 0 st_25 hS) ?_
  refine zlc (xc0 cl_15) (c_little (t := t) w (hT.below hS.below)) ?_; rintro _ w ⟨rfl, hS'⟩
  replace hS := hS.cmp hS'; clear hS'
  refine zlv xnot ?_
  refine zlv xpf ?_
  refine zln <| ztn ?_
  refine zcif ?_ ?_ <;> intro hc
  ·
   refine zsq <| zrg ?_
   refine zlc (xc0 cl_14) (c_gawake w) ?_; rintro _ w ⟨rfl, hS'⟩
   replace hS := hS.cmp hS'; clear hS'
   refine zlv xas ?_
   refine zln <| ztn <| zrt <| ztr <| zf1 ⟨_, rfl, ?_⟩
   exact ⟨rfl, hS.nl⟩
  ·
   refine zsk <| ztn <| zsq <| zrg ?_
   refine zlv (xls 0 st_25 hS) ?_
   refine zla (xal (cs := [_, _, _, _, _]) el_28 hS) ?_; rintro _ w ⟨g2, rfl, hS⟩
   replace hS : Sat w0 w [.blk _ [_, _, _, _, _], .blk _ [_, _, _, _, _]] := hS
   refine zle (xsw 1 st_28 hS (hd := (ones_cons rfl (ones_cons rfl (ones_cons hT.B.slh.one (ones_cons hT.F.slh.one (ones_cons hT.C.row.slh.one ones_nil))))))) ?_; clear hS; rintro w hS
   replace hS : Sat w0 w [.blk _ [_, _, _, _, _], .blk _ [_, _, _, _, _]] := hS
   refine zln <| ztn <| zsq <| zrg ?_
   refine zlv (xls 1 st_28 hS) ?_
   refine zlc (xc0 cl_16) (c_frac (t := t) w (hT.below hS.below)) ?_; rintro _ w ⟨rf1, okf1, ef1, rfl, hfrf1, hS'⟩
   replace hS := hS.cmp hS'; clear hS'
   refine zlv xmv ?_
   iterate 3 refine zlv xex ?_
   iterate 3 refine zlv xas ?_
   refine zln <| ztn <| zsq <| zrg ?_
   refine zlv (xls 0 st_25 hS) ?_
   refine zlc (xc0 cl_17) (c_rfrac (t := t) w (hT.below hS.below)) ?_; rintro _ w ⟨rf2, okf2, ef2, rfl, hfrf2, hS'⟩
   replace hS := hS.cmp hS'; clear hS'
   refine zlv xmv ?_
   iterate 3 refine zlv xex ?_
   iterate 3 refine zlv xas ?_
   refine zln <| ztn <| zsq <| zrg ?_
   refine zlv (xls 1 st_28 hS) ?_
   refine zlv xmv ?_
   refine zlc (xc0 cl_18) (c_cut (t := t) (row := row) w (hT.below hS.below) (by omega)) ?_; rintro _ w ⟨vc1, nc1, fc1, ec1, rfl, hcuc1, hslc1, hS'⟩
   replace hS : Sat w0 w [.blk g1 [.int .i64 t.vars, .int .i64 t.den, vB, vF, vC], .blk g2 [.int .i64 t.vars, .int .i64 t.den, vB, vF, vC], .own vc1 1 3 nc1 (ints fc1)] := hS.comp hS'; clear hS'
   refine zlv xmv ?_
   iterate 2 refine zlv xex ?_
   iterate 2 refine zlv xas ?_
   refine zln <| ztn <| zsq <| zrg ?_
   refine zlv (xls 0 st_25 hS) ?_
   refine zlv xmv ?_
   refine zlc (xc0 cl_19) (c_rcut (t := t) (row := row) w (hT.below hS.below) (by omega)) ?_; rintro _ w ⟨vc2, nc2, fc2, ec2, rfl, hcuc2, hslc2, hS'⟩
   replace hS : Sat w0 w [.blk g1 [.int .i64 t.vars, .int .i64 t.den, vB, vF, vC], .blk g2 [.int .i64 t.vars, .int .i64 t.den, vB, vF, vC], .own vc1 1 3 nc1 (ints fc1), .own vc2 1 3 nc2 (ints fc2)] := hS.comp hS'; clear hS'
   refine zlv xmv ?_
   iterate 2 refine zlv xex ?_
   iterate 2 refine zlv xas ?_
   refine zln <| ztn <| zsq <| zrg ?_
   refine zlv (xls 1 st_28 hS) ?_
   refine zlv xmv ?_
   refine zlc (xc0 cl_20) (c_add (t := t) (row := row) w (hT.below hS.below) (by omega)) ?_; rintro _ w ⟨vBk1, vFk1, vCk1, vvk1, tk1, ek1, rfl, hadk1, hsBk1, hsFk1, hsCk1, hS'⟩
   replace hS : Sat w0 w [.blk g1 [.int .i64 t.vars, .int .i64 t.den, vB, vF, vC], .blk g2 [.int .i64 t.vars, .int .i64 t.den, vB, vF, vC], .own vc1 1 3 nc1 (ints fc1), .own vc2 1 3 nc2 (ints fc2), .own vBk1 1 3 tk1.nb (ints tk1.B), .own vFk1 1 3 tk1.nf (ints tk1.F), .own vCk1 1 22 tk1.nc vvk1, .sem (Frame.rows 3 tk1.nc vvk1 tk1.ln tk1.C)] := hS.comp hS'; clear hS'
   have hrsk1 := fun k (k0 : 0 ≤ k) (k1 : k < tk1.nc) => hS.slhIn 7 rfl k0 k1
   refine zlv xmv ?_
   iterate 2 refine zlv xex ?_
   refine zla (xal (cs := [_, _, _, _, _]) el_28 hS) ?_; rintro _ w ⟨g3, rfl, hS⟩
   replace hS : Sat w0 w [.blk _ [_, _, _, _, _], .blk _ [_, _, _, _, _], _, _, _, _, _, _, .blk _ [_, _, _, _, _]] := hS
   refine zle (xsw 8 st_28 hS (hd := (ones_cons rfl (ones_cons rfl (ones_cons hsBk1.one (ones_cons hsFk1.one (ones_cons hsCk1.one ones_nil))))))) ?_; clear hS; rintro w hS
   replace hS : Sat w0 w [.blk _ [_, _, _, _, _], .blk _ [_, _, _, _, _], _, _, _, _, _, _, .blk _ [_, _, _, _, _]] := hS
   refine zlv xas ?_
   refine zln <| ztn <| zsq <| zrg ?_
   refine zlv (xls 0 st_25 hS) ?_
   refine zlv xmv ?_
   refine zlc (xc0 cl_21) (c_radd (t := t) (row := row) w (hT.below hS.below) (by omega)) ?_; rintro _ w ⟨vBk2, vFk2, vCk2, vvk2, tk2, ek2, rfl, hadk2, hsBk2, hsFk2, hsCk2, hS'⟩
   replace hS : Sat w0 w [.blk g1 [.int .i64 t.vars, .int .i64 t.den, vB, vF, vC], .blk g2 [.int .i64 t.vars, .int .i64 t.den, vB, vF, vC], .own vc1 1 3 nc1 (ints fc1), .own vc2 1 3 nc2 (ints fc2), .own vBk1 1 3 tk1.nb (ints tk1.B), .own vFk1 1 3 tk1.nf (ints tk1.F), .own vCk1 1 22 tk1.nc vvk1, .sem (Frame.rows 3 tk1.nc vvk1 tk1.ln tk1.C), .blk g3 [.int .i64 tk1.vars, .int .i64 tk1.den, vBk1, vFk1, vCk1], .own vBk2 1 3 tk2.nb (ints tk2.B), .own vFk2 1 3 tk2.nf (ints tk2.F), .own vCk2 1 22 tk2.nc vvk2, .sem (Frame.rows 3 tk2.nc vvk2 tk2.ln tk2.C)] := hS.comp hS'; clear hS'
   have hrsk2 := fun k (k0 : 0 ≤ k) (k1 : k < tk2.nc) => hS.slhIn 12 rfl k0 k1
   refine zlv xmv ?_
   iterate 2 refine zlv xex ?_
   refine zla (xal (cs := [_, _, _, _, _]) el_25 hS) ?_; rintro _ w ⟨g4, rfl, hS⟩
   replace hS : Sat w0 w [.blk _ [_, _, _, _, _], .blk _ [_, _, _, _, _], _, _, _, _, _, _, .blk _ [_, _, _, _, _], _, _, _, _, .blk _ [_, _, _, _, _]] := hS
   refine zle (xsw 13 st_25 hS (hd := (ones_cons rfl (ones_cons rfl (ones_cons hsBk2.one (ones_cons hsFk2.one (ones_cons hsCk2.one ones_nil))))))) ?_; clear hS; rintro w hS
   replace hS : Sat w0 w [.blk _ [_, _, _, _, _], .blk _ [_, _, _, _, _], _, _, _, _, _, _, .blk _ [_, _, _, _, _], _, _, _, _, .blk _ [_, _, _, _, _]] := hS
   refine zlv xas ?_
   refine zln <| ztn <| zsq <| zrg ?_
   refine zlv xmv ?_
   obtain ⟨q1, q2, q3⟩ := hfrf1.same hfrf2
   obtain ⟨q4, q5, q6⟩ := hcuc1.same hcuc2
   obtain ⟨q7, q8⟩ := hadk1.same hadk2
   have hs1 : SameT tk1 tk2 := by rw [q7]; exact SameT.refl _
   have hs2 : nc1 = nc2 ∧ ∀ k, 0 ≤ k → k < nc1 → fc1 k = fc2 k := ⟨q4, q5⟩
   refine zlv xmv ?_
   refine zlv xeql ?_
   refine zlv xmv ?_
   refine zlb 68 ?_ ?_ <;> intro hc
   ·
    iterate 2 refine zlv xmv ?_
    refine zlvr rfl rfl rfl (ex_eqb rfl rfl rfl) ?_
    refine zlv xpt ?_
    refine zlv xmv ?_
    refine zlb 73 ?_ ?_ <;> intro hc
    ·
     iterate 2 refine zlv xmv ?_
     refine zlv xeql ?_
     refine zlv xpt ?_
     refine zlv xmv ?_
     refine zlb 78 ?_ ?_ <;> intro hc
     ·
      iterate 2 refine zlv xmv ?_
      refine zlc (xc0 cl_22) (c_same0 (n := nc1) (m := nc2) (f := fc1) (g := fc2) w (hS.rowN 2 rfl) (hS.rowN 3 rfl)) ?_; rintro _ w ⟨rfl, hS'⟩
      replace hS := hS.cmp hS'; clear hS'
      refine zlv xpt ?_
      refine zlv xmv ?_
      refine zlb 83 ?_ ?_ <;> intro hc
      ·
       iterate 2 refine zlv xmv ?_
       refine zlv xeql ?_
       refine zlv xpt ?_
       refine zlv xmv ?_
       refine zlb 88 ?_ ?_ <;> intro hc
       ·
        refine zlv (xls 8 st_28 hS) ?_
        refine zlv (xls 13 st_25 hS) ?_
        refine zlc (xc0 cl_23) (c_gsame (t := tk1) (u := tk2) w (⟨(hS.rowN 4 rfl), (hS.rowN 5 rfl), (⟨(hS.rowN 6 rfl), fun k k0 k1 => hS.rowIn 7 rfl k0 k1, fun k k0 k1 => hS.roomIn 7 rfl k0 k1⟩ : MAt _ vCk1 tk1.nc vvk1 tk1.ln tk1.C)⟩ : TAt _ vBk1 vFk1 vCk1 vvk1 tk1) (⟨(hS.rowN 9 rfl), (hS.rowN 10 rfl), (⟨(hS.rowN 11 rfl), fun k k0 k1 => hS.rowIn 12 rfl k0 k1, fun k k0 k1 => hS.roomIn 12 rfl k0 k1⟩ : MAt _ vCk2 tk2.nc vvk2 tk2.ln tk2.C)⟩ : TAt _ vBk2 vFk2 vCk2 vvk2 tk2)) ?_; rintro _ w ⟨rfl, hS'⟩
        replace hS := hS.cmp hS'; clear hS'
        refine zlv xpt ?_
        refine zlv xmv ?_
        refine zlb 93 ?_ ?_ <;> intro hc
        ·
         iterate 2 refine zlv xmv ?_
         refine zlv xeql ?_
         refine zlv xpt ?_
         refine zlv xas ?_
         refine zln <| ztn <| zrt <| zf1 ⟨_, rfl, ?_⟩
         exact ⟨(true_B (by first | exact hs1 | exact hs2 | exact q2 | omega)).symm, hS.nl⟩
        ·
         iterate 3 refine zlo ?_
         refine zlv xpf ?_
         refine zlv xas ?_
         refine zln <| ztn <| zrt <| zf1 ⟨_, rfl, ?_⟩
         exfalso
         first | omega | exact absurd hs1 ‹_› | exact absurd hs2 ‹_› | exact absurd q2 ‹_›
       ·
        iterate 3 refine zlo ?_
        refine zlv xpf ?_
        refine zlv xmv ?_
        iterate 3 refine zlo ?_
        refine zlv xpf ?_
        refine zlv xas ?_
        refine zln <| ztn <| zrt <| zf1 ⟨_, rfl, ?_⟩
        exfalso
        first | omega | exact absurd hs1 ‹_› | exact absurd hs2 ‹_› | exact absurd q2 ‹_›
      ·
       iterate 3 refine zlo ?_
       refine zlv xpf ?_
       refine zlv xmv ?_
       iterate 3 refine zlo ?_
       refine zlv xpf ?_
       refine zlv xmv ?_
       iterate 3 refine zlo ?_
       refine zlv xpf ?_
       refine zlv xas ?_
       refine zln <| ztn <| zrt <| zf1 ⟨_, rfl, ?_⟩
       exfalso
       first | omega | exact absurd hs1 ‹_› | exact absurd hs2 ‹_› | exact absurd q2 ‹_›
     ·
      iterate 3 refine zlo ?_
      refine zlv xpf ?_
      refine zlv xmv ?_
      iterate 3 refine zlo ?_
      refine zlv xpf ?_
      refine zlv xmv ?_
      iterate 3 refine zlo ?_
      refine zlv xpf ?_
      refine zlv xmv ?_
      iterate 3 refine zlo ?_
      refine zlv xpf ?_
      refine zlv xas ?_
      refine zln <| ztn <| zrt <| zf1 ⟨_, rfl, ?_⟩
      exfalso
      first | omega | exact absurd hs1 ‹_› | exact absurd hs2 ‹_› | exact absurd q2 ‹_›
    ·
     iterate 3 refine zlo ?_
     refine zlv xpf ?_
     refine zlv xmv ?_
     iterate 3 refine zlo ?_
     refine zlv xpf ?_
     refine zlv xmv ?_
     iterate 3 refine zlo ?_
     refine zlv xpf ?_
     refine zlv xmv ?_
     iterate 3 refine zlo ?_
     refine zlv xpf ?_
     refine zlv xmv ?_
     iterate 3 refine zlo ?_
     refine zlv xpf ?_
     refine zlv xas ?_
     refine zln <| ztn <| zrt <| zf1 ⟨_, rfl, ?_⟩
     exfalso
     first | omega | exact absurd hs1 ‹_› | exact absurd hs2 ‹_› | exact absurd q2 ‹_›
   ·
    iterate 3 refine zlo ?_
    refine zlv xpf ?_
    refine zlv xmv ?_
    iterate 3 refine zlo ?_
    refine zlv xpf ?_
    refine zlv xmv ?_
    iterate 3 refine zlo ?_
    refine zlv xpf ?_
    refine zlv xmv ?_
    iterate 3 refine zlo ?_
    refine zlv xpf ?_
    refine zlv xmv ?_
    iterate 3 refine zlo ?_
    refine zlv xpf ?_
    refine zlv xmv ?_
    iterate 3 refine zlo ?_
    refine zlv xpf ?_
    refine zlv xas ?_
    refine zln <| ztn <| zrt <| zf1 ⟨_, rfl, ?_⟩
    exfalso
    first | omega | exact absurd hs1 ‹_› | exact absurd hs2 ‹_› | exact absurd q2 ‹_›

end Go.Proofs.Ytelfplepnodbgaa
