/- The walk of MasterRead. -/
import Derived.Test.YtelfplepnodbgaaGv
import Derived.Test.YtelfplepnodbgaaN3
namespace Go.Proofs.Ytelfplepnodbgaa
open Go Go.RowKit Go.Proofs.Gw
set_option linter.unusedVariables false

theorem cl_48 : calledT Try.prog 48 = true := by kernel_rfl
theorem cl_49 : calledT Try.prog 49 = true := by kernel_rfl
theorem cl_50 : calledT Try.prog 50 = true := by kernel_rfl
theorem cl_51 : calledT Try.prog 51 = true := by kernel_rfl
theorem cl_52 : calledT Try.prog 52 = true := by kernel_rfl
theorem cl_53 : calledT Try.prog 53 = true := by kernel_rfl
theorem cl_54 : calledT Try.prog 54 = true := by kernel_rfl
theorem cl_55 : calledT Try.prog 55 = true := by kernel_rfl
theorem cl_56 : calledT Try.prog 56 = true := by kernel_rfl
theorem eqlB (w : World) (a b : Bool) : (binOp .eql 4 (.bool a) (.bool b)).run Try.prog w = .ok (.bool (a == b)) w := by
  cases a <;> cases b <;> kernel_rfl
theorem ex_eqb {L : List (Nat × Value)} {w : World} {o : Oper} {x y : Operand} {T' : TypeId} {p q : Prop} (ho : o.op = .binOp .eql 4 x y T') (hx : evL L x = some (B p)) (hy : evL L y = some (B q)) : Runs Try.prog L w o (.value (B (p ↔ q))) w := fun ρ h => by
  by_cases hp : p <;> by_cases hq : q
  · rw [B_true hp] at hx; rw [B_true hq] at hy; rw [B_true (show p ↔ q from ⟨fun _ => hq, fun _ => hp⟩)]; simp [execOp, ho, h _ _ hx, h _ _ hy, eqlB]; rfl
  · rw [B_true hp] at hx; rw [B_false hq] at hy; rw [B_false (show ¬ (p ↔ q) from fun e => hq (e.1 hp))]; simp [execOp, ho, h _ _ hx, h _ _ hy, eqlB]; rfl
  · rw [B_false hp] at hx; rw [B_true hq] at hy; rw [B_false (show ¬ (p ↔ q) from fun e => hp (e.2 hq))]; simp [execOp, ho, h _ _ hx, h _ _ hy, eqlB]; rfl
  · rw [B_false hp] at hx; rw [B_false hq] at hy; rw [B_true (show p ↔ q from ⟨fun e => absurd e hp, fun e => absurd e hq⟩)]; simp [execOp, ho, h _ _ hx, h _ _ hy, eqlB]; rfl

set_option maxRecDepth 20000 in
theorem law_mread {vM : Value} {u : Int} {mv : Int → Value} {ml : Int → Int} {mf : Int → Int → Int} {vX vY : Value} {s : So} (w0 : World) (hX : Row w0 vX 1 s.n (ints s.X)) (hY : Row w0 vY 1 s.m (ints s.Y)) (hM : MAt w0 vM u mv ml mf) :
    Calls Try.prog 12 [.agg #[vX, vY, .int .i64 s.val, .int .i64 s.den], vM].toArray w0 fun e w => ∃ v, e = .returned v ∧ v = .bool true ∧ Sat w0 w [] := by
  have hn := hX.slh.n0; have hn1 := hX.slh.n1
  have hu := hM.row.slh.n0; have hu1 := hM.row.slh.n1
  refine zenG Try.func12 Try.ntmps12 fun w hS => ?_
  refine zsr ?_
  refine zla (xbx (cs := [_, _, _, _]) hS) ?_; rintro _ w ⟨g1, rfl, hS⟩
  replace hS := hS.n1
  refine zlv xas ?_
  refine zlt <| zsq <| zsr ?_
  refine zlc (xc0 cl_34) (c_awake30 w) ?_; rintro _ w ⟨rfl, hS'⟩
  replace hS := hS.cmp hS'; clear hS'
  refine zs2 ?_
  refine zlv (xfb 0 fd_72_0) ?_
  refine zlv (xlb 0 pl_22 hS) ?_
  refine zlv (xln sl_22 hX.slh) ?_
  refine zs3 ?_
  refine zlb 30 ?_ ?_ <;> intro hc
  ·
   iterate 4 refine zlo ?_
   refine zs2 ?_
   iterate 3 refine zlo ?_
   refine zlv xpt ?_
   refine zlt <| zct <| zsr ?_
   refine zlc (xc0 cl_34) (c_awake30 w) ?_; rintro _ w ⟨rfl, hS'⟩
   replace hS := hS.cmp hS'; clear hS'
   refine zlv xas ?_
   refine zlt <| zrt <| ztr <| zf1 ⟨_, rfl, ?_⟩
   exact ⟨rfl, hS.nl⟩
  refine zlv (xfb 1 fd_72_1) ?_
  refine zlv (xlb 0 pl_22 hS) ?_
  refine zlv (xln sl_22 hY.slh) ?_
  refine zs3 ?_
  refine zlb 36 ?_ ?_ <;> intro hc
  ·
   iterate 3 refine zlo ?_
   refine zlv xpt ?_
   refine zlt <| zct <| zsr ?_
   refine zlc (xc0 cl_34) (c_awake30 w) ?_; rintro _ w ⟨rfl, hS'⟩
   replace hS := hS.cmp hS'; clear hS'
   refine zlv xas ?_
   refine zlt <| zrt <| ztr <| zf1 ⟨_, rfl, ?_⟩
   exact ⟨rfl, hS.nl⟩
  refine zlv xmv ?_
  refine zlc (xc0 cl_36) (c_few30 (u := u) (ml := ml) w (hM.below hS.below)) ?_; rintro _ w ⟨rfl, hS'⟩
  replace hS := hS.cmp hS'; clear hS'
  refine zs2 ?_
  refine zlt ?_
  refine zcif ?_ ?_ <;> intro hc
  ·
   refine zsr ?_
   refine zlc (xc0 cl_34) (c_awake30 w) ?_; rintro _ w ⟨rfl, hS'⟩
   replace hS := hS.cmp hS'; clear hS'
   refine zlv xas ?_
   refine zlt <| zrt <| ztr <| zf1 ⟨_, rfl, ?_⟩
   exact ⟨rfl, hS.nl⟩
  refine zsk <| ztn <| zsr ?_
  refine zlv (xls 0 st_72 hS) ?_
  have hf30 := Classical.not_not.1 ‹¬ ¬ ((∀ k, 0 ≤ k → k < u → ml k ≤ 25) ∧ u ≤ 30)›
  have hml := fun k k0 k1 => hf30.1 k k0 k1
  refine zla (xal (cs := [_, _, _, _]) el_60 hS) ?_; rintro _ w ⟨g2, rfl, hS⟩
  replace hS := hS.n2
  refine zle (xsw 1 st_60 hS (hd := (ones_cons hX.slh.one (ones_cons hY.slh.one (ones_cons rfl (ones_cons rfl ones_nil)))))) ?_; clear hS; rintro w hS
  replace hS := hS.n2
  refine zlz ?_
  refine zlv (xls 1 st_60 hS) ?_
  refine zlc (xc0 cl_45) (c_value30 (s := s) w (hX.below hS.below) (hY.below hS.below) (by omega)) ?_; rintro _ w ⟨xv91, yv91, ev91, rfl, hvav91, hS'⟩
  replace hS := hS.cmp hS'; clear hS'
  refine zs3 ?_
  refine zla (xal (cs := [_, _]) el_81 hS) ?_; rintro _ w ⟨g3, rfl, hS⟩
  replace hS := hS.n3
  refine zle (xsw 2 st_81 hS) ?_; clear hS; rintro w hS
  replace hS := hS.n3
  refine zlv xas ?_
  refine zlz ?_
  refine zlv (xls 0 st_72 hS) ?_
  refine zlc (xc0 cl_48) (c_rvalue30 (s := s) w (hX.below hS.below) (hY.below hS.below)) ?_; rintro _ w ⟨xv92, yv92, ev92, rfl, hvav92, hS'⟩
  replace hS := hS.cmp hS'; clear hS'
  refine zs3 ?_
  refine zla (xal (cs := [_, _]) el_81 hS) ?_; rintro _ w ⟨g4, rfl, hS⟩
  replace hS := hS.n4
  refine zle (xsw 3 st_81 hS) ?_; clear hS; rintro w hS
  replace hS := hS.n4
  refine zlv xas ?_
  refine zlz ?_
  refine zlv (xls 1 st_60 hS) ?_
  refine zlc (xc0 cl_49) (c_ceil30 (s := s) w (hX.below hS.below) (hY.below hS.below) (by omega)) ?_; rintro _ w ⟨xv93, ev93, rfl, hcev93, hS'⟩
  replace hS := hS.cmp hS'; clear hS'
  refine zs5 ?_
  refine zlz ?_
  refine zlv (xls 0 st_72 hS) ?_
  refine zlc (xc0 cl_50) (c_rceil30 (s := s) w (hX.below hS.below) (hY.below hS.below)) ?_; rintro _ w ⟨xv94, ev94, rfl, hcev94, hS'⟩
  replace hS := hS.cmp hS'; clear hS'
  refine zs5 ?_
  refine zlz ?_
  refine zlv xmv ?_
  refine zlv (xls 1 st_60 hS) ?_
  refine zlc (xc0 cl_51) (c_floor30 (u := u) (ml := ml) (mf := mf) (s := s) w (hM.below hS.below) (hX.below hS.below) (hY.below hS.below) (by omega) (fun k k0 k1 => by have := hml k k0 k1; omega)) ?_; rintro _ w ⟨vffl1, fnfl1, fvfl1, flfl1, fgfl1, fcfl1, fefl1, rfl, hflfl1, hvffl1, hS'⟩
  replace hS : Sat w0 w [.blk g1 [vX, vY, .int .i64 s.val, .int .i64 s.den], .blk g2 [vX, vY, .int .i64 s.val, .int .i64 s.den], .blk g3 [.int .i64 xv91, .int .i64 yv91], .blk g4 [.int .i64 xv92, .int .i64 yv92], .own vffl1 2 139 fnfl1 (ucells fvfl1 fcfl1), .sem (Frame.rows 3 fnfl1 fvfl1 flfl1 fgfl1)] := hS.comp hS'; clear hS'
  have hfrfl1 := fun k (k0 : 0 ≤ k) (k1 : k < fnfl1) => hS.slhIn 5 rfl k0 k1
  refine zs5 ?_
  refine zlz ?_
  refine zlv xmv ?_
  refine zlv (xls 0 st_72 hS) ?_
  refine zlc (xc0 cl_52) (c_rfloor30 (u := u) (ml := ml) (mf := mf) (s := s) w (hM.below hS.below) (hX.below hS.below) (hY.below hS.below) (by omega) (fun k k0 k1 => by have := hml k k0 k1; omega)) ?_; rintro _ w ⟨vffl2, fnfl2, fvfl2, flfl2, fgfl2, fcfl2, fefl2, rfl, hflfl2, hvffl2, hS'⟩
  replace hS : Sat w0 w [.blk g1 [vX, vY, .int .i64 s.val, .int .i64 s.den], .blk g2 [vX, vY, .int .i64 s.val, .int .i64 s.den], .blk g3 [.int .i64 xv91, .int .i64 yv91], .blk g4 [.int .i64 xv92, .int .i64 yv92], .own vffl1 2 139 fnfl1 (ucells fvfl1 fcfl1), .sem (Frame.rows 3 fnfl1 fvfl1 flfl1 fgfl1), .own vffl2 2 106 fnfl2 (ucells fvfl2 fcfl2), .sem (Frame.rows 3 fnfl2 fvfl2 flfl2 fgfl2)] := hS.comp hS'; clear hS'
  have hfrfl2 := fun k (k0 : 0 ≤ k) (k1 : k < fnfl2) => hS.slhIn 7 rfl k0 k1
  refine zs5 ?_
  refine zlz ?_
  refine zlv (xls 1 st_60 hS) ?_
  refine zlc (xc0 cl_53) (c_frac30 (s := s) w (hX.below hS.below) (hY.below hS.below) (by omega)) ?_; rintro _ w ⟨fkfr1, fofr1, rfl, hfrfr1, hS'⟩
  replace hS := hS.cmp hS'; clear hS'
  refine zs5 ?_
  refine zlz ?_
  refine zlv (xls 0 st_72 hS) ?_
  refine zlc (xc0 cl_54) (c_rfrac30 (s := s) w (hX.below hS.below) (hY.below hS.below)) ?_; rintro _ w ⟨fkfr2, fofr2, rfl, hfrfr2, hS'⟩
  replace hS := hS.cmp hS'; clear hS'
  refine zs3 ?_
  have hfg := hflfl1.rng hu
  obtain ⟨q1, q2, q3⟩ := ValR.same hvav91 hvav92
  obtain ⟨q4, q5⟩ := CeilR.same hcev93 hcev94
  obtain ⟨q6, q7⟩ := FloorR.same hflfl1 hflfl2
  obtain ⟨q8, q9⟩ := FracR.same hfrfr1 hfrfr2
  refine zs2 ?_
  refine zlz ?_
  refine zlv (xls 2 st_81 hS) ?_
  refine zlv (xls 3 st_81 hS) ?_
  refine zlv xeqr ?_
  refine zlv xmv ?_
  refine zlb 88 ?_ ?_ <;> intro hc
  ·
   refine zs5 ?_
   refine zlb 93 ?_ ?_ <;> intro hc
   ·
    refine zs5 ?_
    refine zlb 98 ?_ ?_ <;> intro hc
    ·
     refine zs5 ?_
     refine zlb 103 ?_ ?_ <;> intro hc
     ·
      refine zs5 ?_
      refine zlb 108 ?_ ?_ <;> intro hc
      ·
       refine zlv xmv ?_
       refine zlc (xc0 cl_56) (c_theirs (n := fnfl1) (pv := fvfl1) (ln := flfl1) (pt := fgfl1) (cnt := fcfl1) w (⟨(hS.rowN 4 rfl), fun k k0 k1 => hS.rowIn 5 rfl k0 k1, fun k k0 k1 => hS.roomIn 5 rfl k0 k1⟩ : VAt _ vffl1 fnfl1 fvfl1 flfl1 fgfl1 fcfl1) (by omega)) ?_; rintro vtth1 w ⟨_, rfl, hvtth1, hS'⟩
       replace hS : Sat w0 w [.blk g1 [vX, vY, .int .i64 s.val, .int .i64 s.den], .blk g2 [vX, vY, .int .i64 s.val, .int .i64 s.den], .blk g3 [.int .i64 xv91, .int .i64 yv91], .blk g4 [.int .i64 xv92, .int .i64 yv92], .own vffl1 2 139 fnfl1 (ucells fvfl1 fcfl1), .sem (Frame.rows 3 fnfl1 fvfl1 flfl1 fgfl1), .own vffl2 2 106 fnfl2 (ucells fvfl2 fcfl2), .sem (Frame.rows 3 fnfl2 fvfl2 flfl2 fgfl2), .own vtth1 2 106 fnfl1 (ucells fvfl1 fcfl1)] := hS.comp hS'; clear hS'
       refine zlv xmv ?_
       refine zlc (xc0 cl_55) (c_splan (n := fnfl1) (pv := fvfl1) (ln := flfl1) (pt := fgfl1) (cnt := fcfl1) (n2 := fnfl2) (pv2 := fvfl2) (ln2 := flfl2) (pt2 := fgfl2) (cnt2 := fcfl2) w (⟨(hS.rowN 8 rfl), fun k k0 k1 => hS.rowIn 5 rfl k0 k1, fun k k0 k1 => hS.roomIn 5 rfl k0 k1⟩ : VAt _ vtth1 fnfl1 fvfl1 flfl1 fgfl1 fcfl1) (⟨(hS.rowN 6 rfl), fun k k0 k1 => hS.rowIn 7 rfl k0 k1, fun k k0 k1 => hS.roomIn 7 rfl k0 k1⟩ : VAt _ vffl2 fnfl2 fvfl2 flfl2 fgfl2 fcfl2)) ?_; rintro _ w ⟨rfl, hS'⟩
       replace hS := hS.cmp hS'; clear hS'
       refine zs2 ?_
       refine zlb 114 ?_ ?_ <;> intro hc
       ·
        refine zs5 ?_
        refine zlb 119 ?_ ?_ <;> intro hc
        ·
         refine zs2 ?_
         refine zlvr rfl rfl rfl (ex_eqb rfl rfl rfl) ?_
         refine zs2 ?_
         refine zlt <| zrt <| zf1 ⟨_, rfl, ?_⟩
         exact ⟨(true_B q9).symm, hS.nl⟩
        iterate 3 refine zlo ?_
        refine zs2 ?_
        refine zlt <| zrt <| zf1 ⟨_, rfl, ?_⟩
        exfalso
        first | omega | exact absurd q6 ‹_› | exact absurd q9 ‹_›
       iterate 3 refine zlo ?_
       refine zs2 ?_
       iterate 3 refine zlo ?_
       refine zs2 ?_
       refine zlt <| zrt <| zf1 ⟨_, rfl, ?_⟩
       exfalso
       first | omega | exact absurd q6 ‹_› | exact absurd q9 ‹_›
      iterate 4 refine zlo ?_
      refine zs2 ?_
      iterate 3 refine zlo ?_
      refine zs2 ?_
      iterate 3 refine zlo ?_
      refine zs2 ?_
      refine zlt <| zrt <| zf1 ⟨_, rfl, ?_⟩
      exfalso
      first | omega | exact absurd q6 ‹_› | exact absurd q9 ‹_›
     iterate 3 refine zlo ?_
     refine zs2 ?_
     iterate 4 refine zlo ?_
     refine zs2 ?_
     iterate 3 refine zlo ?_
     refine zs2 ?_
     iterate 3 refine zlo ?_
     refine zs2 ?_
     refine zlt <| zrt <| zf1 ⟨_, rfl, ?_⟩
     exfalso
     first | omega | exact absurd q6 ‹_› | exact absurd q9 ‹_›
    iterate 3 refine zlo ?_
    refine zs2 ?_
    iterate 3 refine zlo ?_
    refine zs2 ?_
    iterate 4 refine zlo ?_
    refine zs2 ?_
    iterate 3 refine zlo ?_
    refine zs2 ?_
    iterate 3 refine zlo ?_
    refine zs2 ?_
    refine zlt <| zrt <| zf1 ⟨_, rfl, ?_⟩
    exfalso
    first | omega | exact absurd q6 ‹_› | exact absurd q9 ‹_›
   iterate 3 refine zlo ?_
   refine zs2 ?_
   iterate 3 refine zlo ?_
   refine zs2 ?_
   iterate 3 refine zlo ?_
   refine zs2 ?_
   iterate 4 refine zlo ?_
   refine zs2 ?_
   iterate 3 refine zlo ?_
   refine zs2 ?_
   iterate 3 refine zlo ?_
   refine zs2 ?_
   refine zlt <| zrt <| zf1 ⟨_, rfl, ?_⟩
   exfalso
   first | omega | exact absurd q6 ‹_› | exact absurd q9 ‹_›
  iterate 3 refine zlo ?_
  refine zs2 ?_
  iterate 3 refine zlo ?_
  refine zs2 ?_
  iterate 3 refine zlo ?_
  refine zs2 ?_
  iterate 3 refine zlo ?_
  refine zs2 ?_
  iterate 4 refine zlo ?_
  refine zs2 ?_
  iterate 3 refine zlo ?_
  refine zs2 ?_
  iterate 3 refine zlo ?_
  refine zs2 ?_
  refine zlt <| zrt <| zf1 ⟨_, rfl, ?_⟩
  exfalso
  first | omega | exact absurd q6 ‹_› | exact absurd q9 ‹_›

end Go.Proofs.Ytelfplepnodbgaa
