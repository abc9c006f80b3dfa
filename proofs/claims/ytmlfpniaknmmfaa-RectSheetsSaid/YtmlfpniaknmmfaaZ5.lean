/- The walk of Valid, of cut trees. -/
import Derived.Test.YtmlfpniaknmmfaaGv
import Derived.Test.YtmlfpniaknmmfaaZ4
namespace Go.Proofs.Ytmlfpniaknmmfaa
open Go Go.RowKit Go.Proofs.Gw
set_option linter.unusedVariables false

theorem cl_30 : calledT Try.prog 30 = true := by kernel_rfl
set_option maxRecDepth 20000 in
theorem c_valid37 {vT : Value} {t : Tree} {vQ : Value} {q : Kinds} {s : Sht} (w0 : World) (hT : TrAt w0 vT t) (hQ : DAt w0 vQ q.m q.w q.h q.v) (hs : (-9223372036854775808 ≤ s.w ∧ s.w ≤ 9223372036854775807) ∧ (-9223372036854775808 ≤ s.h ∧ s.h ≤ 9223372036854775807) ∧ (-9223372036854775808 ≤ s.kf ∧ s.kf ≤ 9223372036854775807)) :
    Calls Try.prog 19 [vT, vQ, .int .i64 s.w, .int .i64 s.h, .int .i64 s.kf].toArray w0 fun e w => ∃ v, e = .returned v ∧ v = B (t.Ok q s) ∧ Sat w0 w [] := by
  refine zenG Try.func19 Try.ntmps19 fun w hS => ?_
  refine zsr ?_
  refine zlv xas ?_
  refine zlz ?_
  refine zs5 ?_
  refine zlc (xc0 cl_30) (c_places (t := t) (q := q) (s := s) w (hT.below hS.below) (hQ.below hS.below) hs) ?_; rintro _ w ⟨rpc1, epc1, rfl, hpopc1, hpepc1, hS'⟩
  replace hS := hS.cmp hS'; clear hS'
  refine zs5 ?_
  refine zlz ?_
  refine zs3 ?_
  refine zlt <| zrt <| zf1 ⟨_, rfl, ?_⟩
  exact ⟨B_congr hpopc1, hS⟩

end Go.Proofs.Ytmlfpniaknmmfaa
