/- The walks of the small functions of cut trees. -/
import Derived.Test.YtmlfpniaknmmfaaGv
import Derived.Test.YtmlfpniaknmmfaaW9
import Derived.Test.YtmlfpniaknmmfaaHf
namespace Go.Proofs.Ytmlfpniaknmmfaa
open Go Go.RowKit Go.Proofs.Gw
set_option linter.unusedVariables false

theorem cl_42 : calledT Try.prog 42 = true := by kernel_rfl
theorem el_58 : elemT Try.prog 58 = some (.agg #[.int .i64 0, .int .i64 0, .int .i64 0], 3, 24) := by kernel_rfl
theorem el_84 : elemT Try.prog 84 = some (.agg #[.bool false, .int .i64 0, .int .i64 0, .int .i64 0, .int .i64 0], 5, 40) := by kernel_rfl
theorem fd_58_0 : fieldT Try.prog 58 0 = some 0 := by kernel_rfl
theorem fd_58_1 : fieldT Try.prog 58 1 = some 1 := by kernel_rfl
theorem fd_58_2 : fieldT Try.prog 58 2 = some 2 := by kernel_rfl
theorem fd_84_0 : fieldT Try.prog 84 0 = some 0 := by kernel_rfl
theorem fd_84_1 : fieldT Try.prog 84 1 = some 1 := by kernel_rfl
theorem fd_84_2 : fieldT Try.prog 84 2 = some 2 := by kernel_rfl
theorem fd_84_3 : fieldT Try.prog 84 3 = some 3 := by kernel_rfl
theorem fd_84_4 : fieldT Try.prog 84 4 = some 4 := by kernel_rfl
theorem pl_4 : plainT Try.prog 4 = true := by kernel_rfl
theorem sl_47 : sliceT Try.prog 47 = some (58, 3) := by kernel_rfl
theorem sl_54 : sliceT Try.prog 54 = some (84, 5) := by kernel_rfl
theorem st_58 : structT Try.prog 58 = some 3 := by kernel_rfl
theorem st_84 : structT Try.prog 84 = some 5 := by kernel_rfl
theorem c_few37 {vQ : Value} {q : Kinds} {x y : Int} (w0 : World) (hQ : DAt w0 vQ q.m q.w q.h q.v) :
    Calls Try.prog 18 [vQ, .int .i64 x, .int .i64 y].toArray w0 fun e w => ∃ v, e = .returned v ∧ v = B (q.m ≤ 8 ∧ x ≤ 60 ∧ y ≤ 60) ∧ Sat w0 w [] := by
  have hq0 := hQ.row.slh.n0
  refine zenG Try.func18 Try.ntmps18 fun w hS => ?_
  refine zsr ?_
  refine zlv xas ?_
  refine zlz ?_
  refine zlv xmv ?_
  refine zlv (xln sl_47 hQ.row.slh) ?_
  refine zs2 ?_
  refine zlb 10 ?_ ?_ <;> intro hc
  ·
   refine zs4 ?_
   refine zlb 14 ?_ ?_ <;> intro hc
   ·
    refine zs4 ?_
    refine zlt <| zrt <| zf1 ⟨_, rfl, ?_⟩
    exact ⟨B_congr (by omega), hS⟩
   iterate 2 refine zlo ?_
   refine zs2 ?_
   refine zlt <| zrt <| zf1 ⟨_, rfl, ?_⟩
   exact ⟨false_B (by omega), hS⟩
  iterate 2 refine zlo ?_
  refine zs2 ?_
  iterate 2 refine zlo ?_
  refine zs2 ?_
  refine zlt <| zrt <| zf1 ⟨_, rfl, ?_⟩
  exact ⟨false_B (by omega), hS⟩

theorem c_leaf37 {bv : Prop} {na nf ns nk : Int} (w0 : World) :
    Calls Try.prog 42 [.agg #[B (bv), .int .i64 na, .int .i64 nf, .int .i64 ns, .int .i64 nk]].toArray w0 fun e w => ∃ v, e = .returned v ∧ v = B (nf = -1 ∧ ns = -1) ∧ Sat w0 w [] := by
  refine zenG Try.func42 Try.ntmps42 fun w hS => ?_
  refine zsr ?_
  refine zla (xbx (cs := [_, _, _, _, _]) hS) ?_; rintro _ w ⟨g1, rfl, hS⟩
  replace hS := hS.n1
  refine zlv xas ?_
  refine zlz ?_
  refine zlv (xfb 2 fd_84_2) ?_
  refine zlv (xlb 0 pl_3 hS) ?_
  refine zs2 ?_
  refine zlb 6 ?_ ?_ <;> intro hc
  ·
   refine zlv (xfb 3 fd_84_3) ?_
   refine zlv (xlb 0 pl_3 hS) ?_
   refine zs3 ?_
   refine zlt <| zrt <| zf1 ⟨_, rfl, ?_⟩
   exact ⟨B_congr (by omega), hS.nl⟩
  iterate 3 refine zlo ?_
  refine zs2 ?_
  refine zlt <| zrt <| zf1 ⟨_, rfl, ?_⟩
  exact ⟨false_B (by omega), hS.nl⟩

theorem c_whole37 {bv : Prop} {na nf ns nk : Int} (w0 : World) :
    Calls Try.prog 46 [.agg #[B (bv), .int .i64 na, .int .i64 nf, .int .i64 ns, .int .i64 nk]].toArray w0 fun e w => ∃ v, e = .returned v ∧ v = B (((nf = -1 ∧ ns = -1) ∧ na = 0) ∨ (¬ (nf = -1 ∧ ns = -1) ∧ nk = -1)) ∧ Sat w0 w [] := by
  refine zenG Try.func46 Try.ntmps46 fun w hS => ?_
  refine zsr ?_
  refine zla (xbx (cs := [_, _, _, _, _]) hS) ?_; rintro _ w ⟨g1, rfl, hS⟩
  replace hS := hS.n1
  refine zlv xas ?_
  refine zlz ?_
  refine zlv (xls 0 st_84 hS) ?_
  refine zlc (xc0 cl_42) (c_leaf37 (bv := bv) (na := na) (nf := nf) (ns := ns) (nk := nk) w) ?_; rintro _ w ⟨rfl, hS'⟩
  replace hS := hS.cmp hS'; clear hS'
  refine zlv xmv ?_
  refine zlb 5 ?_ ?_ <;> intro hc
  ·
   refine zlv (xfb 1 fd_84_1) ?_
   refine zlv (xlb 0 pl_3 hS) ?_
   refine zs3 ?_
   refine zlb 10 ?_ ?_ <;> intro hc
   ·
    iterate 8 refine zlo ?_
    refine zs2 ?_
    refine zlt <| zrt <| zf1 ⟨_, rfl, ?_⟩
    exact ⟨true_B (by omega), hS.nl⟩
   refine zlv (xls 0 st_84 hS) ?_
   refine zlc (xc0 cl_42) (c_leaf37 (bv := bv) (na := na) (nf := nf) (ns := ns) (nk := nk) w) ?_; rintro _ w ⟨rfl, hS'⟩
   replace hS := hS.cmp hS'; clear hS'
   refine zs2 ?_
   refine zlb 14 ?_ ?_ <;> intro hc
   ·
    refine zlv (xfb 4 fd_84_4) ?_
    refine zlv (xlb 0 pl_3 hS) ?_
    refine zs4 ?_
    refine zlt <| zrt <| zf1 ⟨_, rfl, ?_⟩
    exact ⟨B_congr (by omega), hS.nl⟩
   iterate 3 refine zlo ?_
   refine zs3 ?_
   refine zlt <| zrt <| zf1 ⟨_, rfl, ?_⟩
   exact ⟨false_B (by omega), hS.nl⟩
  iterate 3 refine zlo ?_
  refine zs2 ?_
  refine zlv (xls 0 st_84 hS) ?_
  refine zlc (xc0 cl_42) (c_leaf37 (bv := bv) (na := na) (nf := nf) (ns := ns) (nk := nk) w) ?_; rintro _ w ⟨rfl, hS'⟩
  replace hS := hS.cmp hS'; clear hS'
  refine zs2 ?_
  refine zlb 14 ?_ ?_ <;> intro hc
  ·
   refine zlv (xfb 4 fd_84_4) ?_
   refine zlv (xlb 0 pl_3 hS) ?_
   refine zs4 ?_
   refine zlt <| zrt <| zf1 ⟨_, rfl, ?_⟩
   exact ⟨B_congr (by omega), hS.nl⟩
  iterate 3 refine zlo ?_
  refine zs3 ?_
  refine zlt <| zrt <| zf1 ⟨_, rfl, ?_⟩
  exact ⟨false_B (by omega), hS.nl⟩

theorem c_piece37 {bv : Prop} {na nf ns nk : Int} (w0 : World) :
    Calls Try.prog 31 [.agg #[B (bv), .int .i64 na, .int .i64 nf, .int .i64 ns, .int .i64 nk]].toArray w0 fun e w => ∃ v, e = .returned v ∧ v = B ((nf = -1 ∧ ns = -1) ∧ na = 0 ∧ ¬ bv) ∧ Sat w0 w [] := by
  refine zenG Try.func31 Try.ntmps31 fun w hS => ?_
  refine zsr ?_
  refine zla (xbx (cs := [_, _, _, _, _]) hS) ?_; rintro _ w ⟨g1, rfl, hS⟩
  replace hS := hS.n1
  refine zlv xas ?_
  refine zlz ?_
  refine zlv (xls 0 st_84 hS) ?_
  refine zlc (xc0 cl_42) (c_leaf37 (bv := bv) (na := na) (nf := nf) (ns := ns) (nk := nk) w) ?_; rintro _ w ⟨rfl, hS'⟩
  replace hS := hS.cmp hS'; clear hS'
  refine zlv xmv ?_
  refine zlb 5 ?_ ?_ <;> intro hc
  ·
   refine zlv (xfb 1 fd_84_1) ?_
   refine zlv (xlb 0 pl_3 hS) ?_
   refine zs3 ?_
   refine zlb 10 ?_ ?_ <;> intro hc
   ·
    refine zlv (xfb 0 fd_84_0) ?_
    refine zlv (xlb 0 pl_4 hS) ?_
    refine zs3 ?_
    refine zlt <| zrt <| zf1 ⟨_, rfl, ?_⟩
    exact ⟨B_congr (by exact ⟨fun hh => ⟨by omega, by omega, by first | assumption | exact hh⟩, fun hh => hh.2.2⟩), hS.nl⟩
   iterate 3 refine zlo ?_
   refine zs2 ?_
   refine zlt <| zrt <| zf1 ⟨_, rfl, ?_⟩
   exact ⟨false_B (by first | omega | (intro hh; first | exact absurd hh.2.2 ‹_› | omega)), hS.nl⟩
  iterate 3 refine zlo ?_
  refine zs2 ?_
  iterate 3 refine zlo ?_
  refine zs2 ?_
  refine zlt <| zrt <| zf1 ⟨_, rfl, ?_⟩
  exact ⟨false_B (by first | omega | (intro hh; first | exact absurd hh.2.2 ‹_› | omega)), hS.nl⟩

set_option maxRecDepth 20000 in
theorem c_prob37 {vQ : Value} {q : Kinds} {s : Sht} (w0 : World) (hQ : DAt w0 vQ q.m q.w q.h q.v) (hs : (-9223372036854775808 ≤ s.w ∧ s.w ≤ 9223372036854775807) ∧ (-9223372036854775808 ≤ s.h ∧ s.h ≤ 9223372036854775807) ∧ (-9223372036854775808 ≤ s.kf ∧ s.kf ≤ 9223372036854775807)) :
    Calls Try.prog 39 [vQ, .int .i64 s.w, .int .i64 s.h, .int .i64 s.kf].toArray w0 fun e w => ∃ v, e = .returned v ∧ v = B (Prob37 q s) ∧ Sat w0 w [] := by
  have hq0 := hQ.row.slh.n0; have hq1 := hQ.row.slh.n1
  refine zenG Try.func39 Try.ntmps39 fun w hS => ?_
  refine zsr ?_
  refine zlv xas ?_
  refine zlt <| zsq <| zsr ?_
  refine zlv xas ?_
  refine zlt <| zbk <| zlp (fun mm M w => ∃ (i : Int), mm = ((q.m - i).toNat) ∧ (0 ≤ i) ∧ (i ≤ q.m) ∧ (∀ k, 0 ≤ k → k < i → 1 ≤ q.w k ∧ q.w k ≤ 2000 ∧ 1 ≤ q.h k ∧ q.h k ≤ 2000 ∧ 0 ≤ q.v k ∧ q.v k ≤ 1000000) ∧ M = [(0, vQ), (1, .int .i64 s.w), (2, .int .i64 s.h), (3, .int .i64 s.kf), (9, .int .i64 i)] ∧ Sat w0 w []) ⟨0, rfl, (by omega), (by omega), ?_, rfl, hS⟩ ?_
  ·
   intro k h0 h1; omega
  clear hS w
  rintro mm M w ⟨i, rfl, h0, h1, hall, rfl, hS⟩
  refine zsq <| zsr ?_
  refine zs2 ?_
  refine zlv (xln sl_47 hQ.row.slh) ?_
  refine zlv xlss ?_
  refine zlt ?_
  refine zcif ?_ ?_ <;> intro hc
  ·
   refine zsk <| ztn <| zsq <| zbk <| zsr ?_
   refine zs2 ?_
   refine zlv (xix (kk := 3 * i) sl_47 hQ.row.slh) ?_
   refine zlv (xlw (cs := [.int .i64 (q.w i), .int .i64 (q.h i), .int .i64 (q.v i)]) st_58 (hQ.row.below hS.below) (dcells_at (k := 3 * i) (i := i) q.w q.h q.v (by omega))) ?_
   have hbv := hQ.bw i
   have hbv := hQ.bh i
   have hbv := hQ.bn i
   refine zla (xal (cs := [_, _, _]) el_58 hS) ?_; rintro _ w ⟨g1, rfl, hS⟩
   replace hS := hS.n1
   refine zle (xsw 0 st_58 hS) ?_; clear hS; rintro w hS
   replace hS := hS.n1
   refine zlz ?_
   refine zlv (xfb 0 fd_58_0) ?_
   refine zlv (xlb 0 pl_3 hS) ?_
   refine zs2 ?_
   refine zlb 24 ?_ ?_ <;> intro hc
   ·
    iterate 3 refine zlo ?_
    refine zs2 ?_
    iterate 3 refine zlo ?_
    refine zs2 ?_
    iterate 3 refine zlo ?_
    refine zs2 ?_
    iterate 3 refine zlo ?_
    refine zs2 ?_
    iterate 3 refine zlo ?_
    refine zlv xpt ?_
    refine zlt <| zct <| zsr ?_
    refine zlv xas ?_
    refine zlt <| zrt <| zbr <| ztr <| ztr <| zbr <| ztr <| zf1 ⟨_, rfl, ?_⟩
    exact ⟨false_B (by intro hp; first | (have h9 := hp.all i h0 (by omega); omega) | (have h1 := hp.few; have h2 := hp.w1; have h3 := hp.w2; have h4 := hp.h1; have h5 := hp.h2; have h6 := hp.k1; omega)), hS.nl⟩
   refine zlv (xfb 0 fd_58_0) ?_
   refine zlv (xlb 0 pl_3 hS) ?_
   refine zs3 ?_
   refine zlb 29 ?_ ?_ <;> intro hc
   ·
    iterate 3 refine zlo ?_
    refine zs2 ?_
    iterate 3 refine zlo ?_
    refine zs2 ?_
    iterate 3 refine zlo ?_
    refine zs2 ?_
    iterate 3 refine zlo ?_
    refine zlv xpt ?_
    refine zlt <| zct <| zsr ?_
    refine zlv xas ?_
    refine zlt <| zrt <| zbr <| ztr <| ztr <| zbr <| ztr <| zf1 ⟨_, rfl, ?_⟩
    exact ⟨false_B (by intro hp; first | (have h9 := hp.all i h0 (by omega); omega) | (have h1 := hp.few; have h2 := hp.w1; have h3 := hp.w2; have h4 := hp.h1; have h5 := hp.h2; have h6 := hp.k1; omega)), hS.nl⟩
   refine zlv (xfb 1 fd_58_1) ?_
   refine zlv (xlb 0 pl_3 hS) ?_
   refine zs3 ?_
   refine zlb 34 ?_ ?_ <;> intro hc
   ·
    iterate 3 refine zlo ?_
    refine zs2 ?_
    iterate 3 refine zlo ?_
    refine zs2 ?_
    iterate 3 refine zlo ?_
    refine zlv xpt ?_
    refine zlt <| zct <| zsr ?_
    refine zlv xas ?_
    refine zlt <| zrt <| zbr <| ztr <| ztr <| zbr <| ztr <| zf1 ⟨_, rfl, ?_⟩
    exact ⟨false_B (by intro hp; first | (have h9 := hp.all i h0 (by omega); omega) | (have h1 := hp.few; have h2 := hp.w1; have h3 := hp.w2; have h4 := hp.h1; have h5 := hp.h2; have h6 := hp.k1; omega)), hS.nl⟩
   refine zlv (xfb 1 fd_58_1) ?_
   refine zlv (xlb 0 pl_3 hS) ?_
   refine zs3 ?_
   refine zlb 39 ?_ ?_ <;> intro hc
   ·
    iterate 3 refine zlo ?_
    refine zs2 ?_
    iterate 3 refine zlo ?_
    refine zlv xpt ?_
    refine zlt <| zct <| zsr ?_
    refine zlv xas ?_
    refine zlt <| zrt <| zbr <| ztr <| ztr <| zbr <| ztr <| zf1 ⟨_, rfl, ?_⟩
    exact ⟨false_B (by intro hp; first | (have h9 := hp.all i h0 (by omega); omega) | (have h1 := hp.few; have h2 := hp.w1; have h3 := hp.w2; have h4 := hp.h1; have h5 := hp.h2; have h6 := hp.k1; omega)), hS.nl⟩
   refine zlv (xfb 2 fd_58_2) ?_
   refine zlv (xlb 0 pl_3 hS) ?_
   refine zs3 ?_
   refine zlb 44 ?_ ?_ <;> intro hc
   ·
    iterate 3 refine zlo ?_
    refine zlv xpt ?_
    refine zlt <| zct <| zsr ?_
    refine zlv xas ?_
    refine zlt <| zrt <| zbr <| ztr <| ztr <| zbr <| ztr <| zf1 ⟨_, rfl, ?_⟩
    exact ⟨false_B (by intro hp; first | (have h9 := hp.all i h0 (by omega); omega) | (have h1 := hp.few; have h2 := hp.w1; have h3 := hp.w2; have h4 := hp.h1; have h5 := hp.h2; have h6 := hp.k1; omega)), hS.nl⟩
   refine zlv (xfb 2 fd_58_2) ?_
   refine zlv (xlb 0 pl_3 hS) ?_
   refine zs2 ?_
   refine zlt ?_
   refine zcif ?_ ?_ <;> intro hc
   ·
    refine zsr ?_
    refine zlv xas ?_
    refine zlt <| zrt <| zbr <| ztr <| ztr <| zbr <| ztr <| zf1 ⟨_, rfl, ?_⟩
    exact ⟨false_B (by intro hp; first | (have h9 := hp.all i h0 (by omega); omega) | (have h1 := hp.few; have h2 := hp.w1; have h3 := hp.w2; have h4 := hp.h1; have h5 := hp.h2; have h6 := hp.k1; omega)), hS.nl⟩
   refine zsk <| zbn <| ztn <| zrg ?_
   refine zlv xmv ?_
   refine zlv (xadd (r := i + 1)) ?_
   refine zlv xas ?_
   refine zln <| zlq ⟨i + 1, rfl, (by omega), (by omega), ?_, rfl, hS.nl⟩
   ·
    intro k h0' h1'; rcases Int.lt_or_eq_of_le (show k ≤ i by omega) with hk | hk; exact hall k h0' hk; rw [hk]; omega
  refine zxt <| ztx <| ztx <| zbh <| ztn <| zsr ?_
  refine zlv xmv ?_
  refine zlv (xln sl_47 hQ.row.slh) ?_
  refine zs2 ?_
  refine zlb 52 ?_ ?_ <;> intro hc
  ·
   refine zs4 ?_
   refine zlb 56 ?_ ?_ <;> intro hc
   ·
    refine zs4 ?_
    refine zlb 60 ?_ ?_ <;> intro hc
    ·
     refine zs4 ?_
     refine zlb 64 ?_ ?_ <;> intro hc
     ·
      refine zs4 ?_
      refine zlb 68 ?_ ?_ <;> intro hc
      ·
       refine zs4 ?_
       refine zlb 72 ?_ ?_ <;> intro hc
       ·
        refine zs4 ?_
        refine zlt <| zrt <| zf1 ⟨_, rfl, ?_⟩
        exact ⟨B_congr (by exact ⟨fun hx => ⟨fun k k0 k1 => hall k k0 (by omega), by omega, by omega, by omega, by omega, by omega, by omega, hx⟩, fun hp => hp.k2⟩), hS⟩
       iterate 2 refine zlo ?_
       refine zs2 ?_
       refine zlt <| zrt <| zf1 ⟨_, rfl, ?_⟩
       exact ⟨false_B (by intro hp; first | (have h9 := hp.all i h0 (by omega); omega) | (have h1 := hp.few; have h2 := hp.w1; have h3 := hp.w2; have h4 := hp.h1; have h5 := hp.h2; have h6 := hp.k1; omega)), hS⟩
      iterate 2 refine zlo ?_
      refine zs2 ?_
      iterate 2 refine zlo ?_
      refine zs2 ?_
      refine zlt <| zrt <| zf1 ⟨_, rfl, ?_⟩
      exact ⟨false_B (by intro hp; first | (have h9 := hp.all i h0 (by omega); omega) | (have h1 := hp.few; have h2 := hp.w1; have h3 := hp.w2; have h4 := hp.h1; have h5 := hp.h2; have h6 := hp.k1; omega)), hS⟩
     iterate 2 refine zlo ?_
     refine zs2 ?_
     iterate 2 refine zlo ?_
     refine zs2 ?_
     iterate 2 refine zlo ?_
     refine zs2 ?_
     refine zlt <| zrt <| zf1 ⟨_, rfl, ?_⟩
     exact ⟨false_B (by intro hp; first | (have h9 := hp.all i h0 (by omega); omega) | (have h1 := hp.few; have h2 := hp.w1; have h3 := hp.w2; have h4 := hp.h1; have h5 := hp.h2; have h6 := hp.k1; omega)), hS⟩
    iterate 2 refine zlo ?_
    refine zs2 ?_
    iterate 2 refine zlo ?_
    refine zs2 ?_
    iterate 2 refine zlo ?_
    refine zs2 ?_
    iterate 2 refine zlo ?_
    refine zs2 ?_
    refine zlt <| zrt <| zf1 ⟨_, rfl, ?_⟩
    exact ⟨false_B (by intro hp; first | (have h9 := hp.all i h0 (by omega); omega) | (have h1 := hp.few; have h2 := hp.w1; have h3 := hp.w2; have h4 := hp.h1; have h5 := hp.h2; have h6 := hp.k1; omega)), hS⟩
   iterate 2 refine zlo ?_
   refine zs2 ?_
   iterate 2 refine zlo ?_
   refine zs2 ?_
   iterate 2 refine zlo ?_
   refine zs2 ?_
   iterate 2 refine zlo ?_
   refine zs2 ?_
   iterate 2 refine zlo ?_
   refine zs2 ?_
   refine zlt <| zrt <| zf1 ⟨_, rfl, ?_⟩
   exact ⟨false_B (by intro hp; first | (have h9 := hp.all i h0 (by omega); omega) | (have h1 := hp.few; have h2 := hp.w1; have h3 := hp.w2; have h4 := hp.h1; have h5 := hp.h2; have h6 := hp.k1; omega)), hS⟩
  iterate 2 refine zlo ?_
  refine zs2 ?_
  iterate 2 refine zlo ?_
  refine zs2 ?_
  iterate 2 refine zlo ?_
  refine zs2 ?_
  iterate 2 refine zlo ?_
  refine zs2 ?_
  iterate 2 refine zlo ?_
  refine zs2 ?_
  iterate 2 refine zlo ?_
  refine zs2 ?_
  refine zlt <| zrt <| zf1 ⟨_, rfl, ?_⟩
  exact ⟨false_B (by intro hp; first | (have h9 := hp.all i h0 (by omega); omega) | (have h1 := hp.few; have h2 := hp.w1; have h3 := hp.w2; have h4 := hp.h1; have h5 := hp.h2; have h6 := hp.k1; omega)), hS⟩

theorem seen_leafI {t : Tree} {i : Int} (h0 : 0 ≤ i) (hl : t.leaf i) : t.seen (i + 1).toNat = t.seen i.toNat := by
  obtain ⟨k, rfl⟩ := Int.eq_ofNat_of_zero_le h0
  rw [show ((k : Int) + 1).toNat = k + 1 by omega, Int.toNat_natCast]; exact seen_leaf hl
theorem seen_cutI {t : Tree} {i : Int} (h0 : 0 ≤ i) (hl : ¬ t.leaf i) : t.seen (i + 1).toNat = bump (bump (t.seen i.toNat) (t.F i)) (t.S i) := by
  obtain ⟨k, rfl⟩ := Int.eq_ofNat_of_zero_le h0
  rw [show ((k : Int) + 1).toNat = k + 1 by omega, Int.toNat_natCast]; exact seen_cut hl
theorem seen_round {t : Tree} {i : Int} {fs : Int → Int} (hfs : ∀ j, 0 ≤ j → j < t.n → fs j = t.seen i.toNat j) (h0 : 0 ≤ i) (hl : ¬ t.leaf i) (hF : 0 ≤ t.F i ∧ t.F i < t.n) (hS : 0 ≤ t.S i ∧ t.S i < t.n) :
    ∀ j, 0 ≤ j → j < t.n → upd (upd fs (t.F i) (fs (t.F i) + 1)) (t.S i) (upd fs (t.F i) (fs (t.F i) + 1) (t.S i) + 1) j = t.seen (i + 1).toNat j := fun j j0 j1 => by
  rw [seen_cutI h0 hl]
  have g : ∀ j, 0 ≤ j → j < t.n → upd fs (t.F i) (fs (t.F i) + 1) j = bump (t.seen i.toNat) (t.F i) j := fun j j0 j1 => by
    unfold bump
    by_cases e : j = t.F i
    · rw [e, upd_self, upd_self, hfs _ hF.1 hF.2]
    · rw [upd_ne _ _ e, upd_ne _ _ e, hfs j j0 j1]
  show _ = upd (bump (t.seen i.toNat) (t.F i)) (t.S i) (bump (t.seen i.toNat) (t.F i) (t.S i) + 1) j
  by_cases e : j = t.S i
  · rw [e, upd_self, upd_self, g _ hS.1 hS.2]
  · rw [upd_ne _ _ e, upd_ne _ _ e, g j j0 j1]
theorem seen_le (t : Tree) (j : Int) : ∀ k : Nat, t.seen k j ≤ 2 * k
  | 0 => by simp [Tree.seen]
  | k + 1 => by
    have ih := seen_le t j k
    by_cases h : t.leaf k
    · rw [seen_leaf h]; omega
    · rw [seen_cut h]
      have b1 : ∀ (f : Int → Int) (i j : Int), bump f i j ≤ f j + 1 := fun f i j => by
        by_cases e : j = i
        · rw [e, bump_self]; exact Int.le_refl _
        · rw [bump_ne e]; omega
      have h1 := b1 (t.seen k) (t.F k) j
      have h2 := b1 (bump (t.seen k) (t.F k)) (t.S k) j
      omega
theorem seen_bd {t : Tree} {i : Int} {fs : Int → Int} (hfs : ∀ j, 0 ≤ j → j < t.n → fs j = t.seen i.toNat j) (h0 : 0 ≤ i) (h1 : i ≤ 4000) {j : Int} (j0 : 0 ≤ j) (j1 : j < t.n) : 0 ≤ fs j ∧ fs j ≤ 8000 := by
  rw [hfs j j0 j1]
  have := seen_le t j i.toNat; have := seen_nn (t := t) i.toNat j
  omega
theorem upd_bd {f : Int → Int} {i x j A : Int} (h : 0 ≤ f j ∧ f j ≤ A) (hx : 0 ≤ x ∧ x ≤ A + 1) : 0 ≤ upd f i x j ∧ upd f i x j ≤ A + 1 := by
  unfold upd; split <;> omega

set_option maxRecDepth 20000 in
theorem c_shaped {vT : Value} {t : Tree} (w0 : World) (hT : TrAt w0 vT t) :
    Calls Try.prog 40 [vT].toArray w0 fun e w => ∃ v, e = .returned v ∧ v = B t.Shaped ∧ Sat w0 w [] := by
  have hn0 := hT.row.slh.n0; have hn1 := hT.row.slh.n1
  refine zenG Try.func40 Try.ntmps40 fun w hS => ?_
  refine zsr ?_
  refine zlv xas ?_
  refine zlt <| zsq <| zsr ?_
  refine zlv xmv ?_
  refine zlv (xln sl_54 hT.row.slh) ?_
  refine zs2 ?_
  refine zlb 10 ?_ ?_ <;> intro hc
  ·
   iterate 3 refine zlo ?_
   refine zlv xpt ?_
   refine zlt <| zct <| zsr ?_
   refine zlv xas ?_
   refine zlt <| zrt <| ztr <| zf1 ⟨_, rfl, ?_⟩
   exact ⟨false_B (by intro hs; first | (have h1 := hs.n1; have h2 := hs.n2; omega) | exact hs.lf i h0 (by omega) (show t.leaf i from ‹t.F i = -1 ∧ t.S i = -1›) ‹t.V i› | (have h3 := hs.kd i h0 (by omega) (show ¬ t.leaf i from ‹¬ (t.F i = -1 ∧ t.S i = -1)›); omega) | (have h4 := hs.one i2 (by omega) (by omega); have h5 := hfs i2 (by omega) (by omega); rw [show i = t.n by omega] at h5; omega)), hS⟩
  refine zlv xmv ?_
  refine zlv (xln sl_54 hT.row.slh) ?_
  refine zs2 ?_
  refine zlt ?_
  refine zcif ?_ ?_ <;> intro hc
  ·
   refine zsr ?_
   refine zlv xas ?_
   refine zlt <| zrt <| ztr <| zf1 ⟨_, rfl, ?_⟩
   exact ⟨false_B (by intro hs; first | (have h1 := hs.n1; have h2 := hs.n2; omega) | exact hs.lf i h0 (by omega) (show t.leaf i from ‹t.F i = -1 ∧ t.S i = -1›) ‹t.V i› | (have h3 := hs.kd i h0 (by omega) (show ¬ t.leaf i from ‹¬ (t.F i = -1 ∧ t.S i = -1)›); omega) | (have h4 := hs.one i2 (by omega) (by omega); have h5 := hfs i2 (by omega) (by omega); rw [show i = t.n by omega] at h5; omega)), hS⟩
  refine zsk <| ztn <| zsr ?_
  refine zlv xmv ?_
  refine zlv (xln sl_54 hT.row.slh) ?_
  refine zla (xmk sl_52 el_3 hS) ?_; rintro v1 w ⟨hS, hv1⟩
  replace hS := hS.n1
  refine zlv xas ?_
  refine zlt <| zsq <| zsr ?_
  refine zlv xas ?_
  refine zlt <| zbk <| zlp (fun mm M w => ∃ (i : Int) (fs : Int → Int), mm = ((t.n - i).toNat) ∧ (0 ≤ i) ∧ (i ≤ t.n) ∧ (∀ j, 0 ≤ j → j < t.n → fs j = t.seen i.toNat j) ∧ (∀ k, 0 ≤ k → k < i → (t.leaf k → ¬ t.V k) ∧ (¬ t.leaf k → k < t.F k ∧ t.F k < t.n ∧ k < t.S k ∧ t.S k < t.n)) ∧ M = [(0, vT), (3, v1), (4, .int .i64 i)] ∧ Sat w0 w [.own v1 1 3 t.n (ints fs)]) ⟨0, (fun _ => 0), rfl, (by omega), (by omega), ?_, ?_, rfl, hS⟩ ?_
  ·
   intro j _ _; rfl
  ·
   intro k k0 k1; omega
  clear hS w
  rintro mm M w ⟨i, fs, rfl, h0, h1, hfs, hkd, rfl, hS⟩
  refine zsq <| zsr ?_
  refine zs2 ?_
  refine zlv (xln sl_54 hT.row.slh) ?_
  refine zlv xlss ?_
  refine zlt ?_
  refine zcif ?_ ?_ <;> intro hc
  ·
   refine zsk <| ztn <| zsq <| zbk <| zsr ?_
   refine zs2 ?_
   refine zlv (xix (kk := 5 * i) sl_54 hT.row.slh) ?_
   refine zlv (xlw (cs := [B ((t.V i)), .int .i64 (t.A i), .int .i64 (t.F i), .int .i64 (t.S i), .int .i64 (t.K i)]) st_84 (hT.row.below hS.below) (ncells_at (k := 5 * i) (i := i) t.V t.A t.F t.S t.K (by omega))) ?_
   have hbv := hT.bA i
   have hbv := hT.bF i
   have hbv := hT.bS i
   have hbv := hT.bK i
   refine zla (xal (cs := [_, _, _, _, _]) el_84 hS) ?_; rintro _ w ⟨g1, rfl, hS⟩
   replace hS := hS.n2
   refine zle (xsw 1 st_84 hS (hd := (ones_cons (B_one _) (ones_cons rfl (ones_cons rfl (ones_cons rfl (ones_cons rfl ones_nil))))))) ?_; clear hS; rintro w hS
   replace hS := hS.n2
   refine zlt <| zsq <| zsr ?_
   refine zlv (xls 1 st_84 hS) ?_
   refine zlc (xc0 cl_42) (c_leaf37 (bv := (t.V i)) (na := (t.A i)) (nf := (t.F i)) (ns := (t.S i)) (nk := (t.K i)) w) ?_; rintro _ w ⟨rfl, hS'⟩
   replace hS := hS.cmp hS'; clear hS'
   refine zlt ?_
   refine zcif ?_ ?_ <;> intro hc
   ·
    refine zsq <| zsr ?_
    refine zlv (xfb 0 fd_84_0) ?_
    refine zlv (xlb 1 pl_4 hS) ?_
    refine zlt ?_
    refine zcif ?_ ?_ <;> intro hc
    ·
     refine zsr ?_
     refine zlv xas ?_
     refine zlt <| zrt <| ztr <| ztr <| zbr <| ztr <| ztr <| zbr <| ztr <| zf1 ⟨_, rfl, ?_⟩
     exact ⟨false_B (by intro hs; first | (have h1 := hs.n1; have h2 := hs.n2; omega) | exact hs.lf i h0 (by omega) (show t.leaf i from ‹t.F i = -1 ∧ t.S i = -1›) ‹t.V i› | (have h3 := hs.kd i h0 (by omega) (show ¬ t.leaf i from ‹¬ (t.F i = -1 ∧ t.S i = -1)›); omega) | (have h4 := hs.one i2 (by omega) (by omega); have h5 := hfs i2 (by omega) (by omega); rw [show i = t.n by omega] at h5; omega)), hS.nl⟩
    refine zsk <| ztn <| zxt <| ztx <| zbh <| ztn <| zrg ?_
    refine zlv xmv ?_
    refine zlv (xadd (r := i + 1)) ?_
    refine zlv xas ?_
    refine zln <| zlq ⟨i + 1, fs, rfl, (by omega), (by omega), ?_, ?_, rfl, hS.pk [0]⟩
    ·
     first
     | (intro j j0 j1; rw [seen_leafI h0 (show t.leaf i from ‹t.F i = -1 ∧ t.S i = -1›)]; exact hfs j j0 j1)
     | exact seen_round hfs h0 (show ¬ t.leaf i from ‹¬ (t.F i = -1 ∧ t.S i = -1)›) (by omega) (by omega)
    ·
     intro k k0 k1; rcases Int.lt_or_eq_of_le (show k ≤ i by omega) with hk | hk
     · exact hkd k k0 hk
     · rw [hk]; first | exact ⟨fun _ => ‹¬ t.V i›, fun hh => absurd (show t.leaf i from ‹t.F i = -1 ∧ t.S i = -1›) hh⟩ | exact ⟨fun hh => absurd hh (show ¬ t.leaf i from ‹¬ (t.F i = -1 ∧ t.S i = -1)›), fun _ => by omega⟩
   refine zsk <| ztn <| zsq <| zsr ?_
   refine zlv (xfb 2 fd_84_2) ?_
   refine zlv (xlb 1 pl_3 hS) ?_
   refine zs3 ?_
   refine zlb 36 ?_ ?_ <;> intro hc
   ·
    iterate 5 refine zlo ?_
    refine zs2 ?_
    iterate 4 refine zlo ?_
    refine zs2 ?_
    iterate 5 refine zlo ?_
    refine zlv xpt ?_
    refine zlt <| zct <| zsr ?_
    refine zlv xas ?_
    refine zlt <| zrt <| ztr <| zbr <| ztr <| ztr <| zbr <| ztr <| zf1 ⟨_, rfl, ?_⟩
    exact ⟨false_B (by intro hs; first | (have h1 := hs.n1; have h2 := hs.n2; omega) | exact hs.lf i h0 (by omega) (show t.leaf i from ‹t.F i = -1 ∧ t.S i = -1›) ‹t.V i› | (have h3 := hs.kd i h0 (by omega) (show ¬ t.leaf i from ‹¬ (t.F i = -1 ∧ t.S i = -1)›); omega) | (have h4 := hs.one i2 (by omega) (by omega); have h5 := hfs i2 (by omega) (by omega); rw [show i = t.n by omega] at h5; omega)), hS.nl⟩
   refine zlv (xfb 2 fd_84_2) ?_
   refine zlv (xlb 1 pl_3 hS) ?_
   refine zlv xmv ?_
   refine zlv (xln sl_54 hT.row.slh) ?_
   refine zs3 ?_
   refine zlb 43 ?_ ?_ <;> intro hc
   ·
    iterate 4 refine zlo ?_
    refine zs2 ?_
    iterate 5 refine zlo ?_
    refine zlv xpt ?_
    refine zlt <| zct <| zsr ?_
    refine zlv xas ?_
    refine zlt <| zrt <| ztr <| zbr <| ztr <| ztr <| zbr <| ztr <| zf1 ⟨_, rfl, ?_⟩
    exact ⟨false_B (by intro hs; first | (have h1 := hs.n1; have h2 := hs.n2; omega) | exact hs.lf i h0 (by omega) (show t.leaf i from ‹t.F i = -1 ∧ t.S i = -1›) ‹t.V i› | (have h3 := hs.kd i h0 (by omega) (show ¬ t.leaf i from ‹¬ (t.F i = -1 ∧ t.S i = -1)›); omega) | (have h4 := hs.one i2 (by omega) (by omega); have h5 := hfs i2 (by omega) (by omega); rw [show i = t.n by omega] at h5; omega)), hS.nl⟩
   refine zlv (xfb 3 fd_84_3) ?_
   refine zlv (xlb 1 pl_3 hS) ?_
   refine zs4 ?_
   refine zlb 49 ?_ ?_ <;> intro hc
   ·
    iterate 5 refine zlo ?_
    refine zlv xpt ?_
    refine zlt <| zct <| zsr ?_
    refine zlv xas ?_
    refine zlt <| zrt <| ztr <| zbr <| ztr <| ztr <| zbr <| ztr <| zf1 ⟨_, rfl, ?_⟩
    exact ⟨false_B (by intro hs; first | (have h1 := hs.n1; have h2 := hs.n2; omega) | exact hs.lf i h0 (by omega) (show t.leaf i from ‹t.F i = -1 ∧ t.S i = -1›) ‹t.V i› | (have h3 := hs.kd i h0 (by omega) (show ¬ t.leaf i from ‹¬ (t.F i = -1 ∧ t.S i = -1)›); omega) | (have h4 := hs.one i2 (by omega) (by omega); have h5 := hfs i2 (by omega) (by omega); rw [show i = t.n by omega] at h5; omega)), hS.nl⟩
   refine zlv (xfb 3 fd_84_3) ?_
   refine zlv (xlb 1 pl_3 hS) ?_
   refine zlv xmv ?_
   refine zlv (xln sl_54 hT.row.slh) ?_
   refine zs2 ?_
   refine zlt ?_
   refine zcif ?_ ?_ <;> intro hc
   ·
    refine zsr ?_
    refine zlv xas ?_
    refine zlt <| zrt <| ztr <| zbr <| ztr <| ztr <| zbr <| ztr <| zf1 ⟨_, rfl, ?_⟩
    exact ⟨false_B (by intro hs; first | (have h1 := hs.n1; have h2 := hs.n2; omega) | exact hs.lf i h0 (by omega) (show t.leaf i from ‹t.F i = -1 ∧ t.S i = -1›) ‹t.V i› | (have h3 := hs.kd i h0 (by omega) (show ¬ t.leaf i from ‹¬ (t.F i = -1 ∧ t.S i = -1)›); omega) | (have h4 := hs.one i2 (by omega) (by omega); have h5 := hfs i2 (by omega) (by omega); rw [show i = t.n by omega] at h5; omega)), hS.nl⟩
   refine zsk <| ztn <| zsr ?_
   refine zlv xmv ?_
   refine zlv (xfb 2 fd_84_2) ?_
   refine zlv (xlb 1 pl_3 hS) ?_
   refine zlv (xix (kk := (t.F i)) sl_52 hv1) ?_
   refine zlv (xlr (u := .int .i64 (fs (t.F i))) pl_3 (hS.rowN 0 rfl)) ?_
   have hb9 := seen_bd hfs h0 (by omega) (j := t.F i) (by omega) (by omega)
   refine zlv (xadd (r := fs (t.F i) + 1)) ?_
   refine zlv (xix (kk := (t.F i)) sl_52 hv1) ?_
   refine zle (xso 0 pl_3 hS (upd_ints _ _ _)) ?_; clear hS; rintro w hS
   replace hS := hS.n2
   refine zlt <| zrg ?_
   refine zlv xmv ?_
   refine zlv (xfb 3 fd_84_3) ?_
   refine zlv (xlb 1 pl_3 hS) ?_
   refine zlv (xix (kk := (t.S i)) sl_52 hv1) ?_
   have hb8 := upd_bd (i := t.F i) (x := fs (t.F i) + 1) (seen_bd hfs h0 (by omega) (j := t.S i) (by omega) (by omega)) (by omega)
   refine zlv (xlr (u := .int .i64 ((upd fs (t.F i) (fs (t.F i) + 1)) (t.S i))) pl_3 (hS.rowN 0 rfl)) ?_
   refine zlv (xadd (r := (upd fs (t.F i) (fs (t.F i) + 1)) (t.S i) + 1)) ?_
   refine zlv (xix (kk := (t.S i)) sl_52 hv1) ?_
   refine zle (xso 0 pl_3 hS (upd_ints _ _ _)) ?_; clear hS; rintro w hS
   replace hS := hS.n2
   refine zln <| zbn <| ztn <| zrg ?_
   refine zlv xmv ?_
   refine zlv (xadd (r := i + 1)) ?_
   refine zlv xas ?_
   refine zln <| zlq ⟨i + 1, (upd (upd fs (t.F i) (fs (t.F i) + 1)) (t.S i) ((upd fs (t.F i) (fs (t.F i) + 1)) (t.S i) + 1)), rfl, (by omega), (by omega), ?_, ?_, rfl, hS.pk [0]⟩
   ·
    first
    | (intro j j0 j1; rw [seen_leafI h0 (show t.leaf i from ‹t.F i = -1 ∧ t.S i = -1›)]; exact hfs j j0 j1)
    | exact seen_round hfs h0 (show ¬ t.leaf i from ‹¬ (t.F i = -1 ∧ t.S i = -1)›) (by omega) (by omega)
   ·
    intro k k0 k1; rcases Int.lt_or_eq_of_le (show k ≤ i by omega) with hk | hk
    · exact hkd k k0 hk
    · rw [hk]; first | exact ⟨fun _ => ‹¬ t.V i›, fun hh => absurd (show t.leaf i from ‹t.F i = -1 ∧ t.S i = -1›) hh⟩ | exact ⟨fun hh => absurd hh (show ¬ t.leaf i from ‹¬ (t.F i = -1 ∧ t.S i = -1)›), fun _ => by omega⟩
  refine zxt <| ztx <| ztx <| zbh <| ztn <| zsq <| zsr ?_
  refine zlv xas ?_
  refine zlt <| zbk <| zlp (fun mm M w => ∃ (i2 : Int), mm = ((t.n - i2).toNat) ∧ (1 ≤ i2) ∧ (i2 ≤ t.n) ∧ (∀ j, 1 ≤ j → j < i2 → t.seen t.n.toNat j = 1) ∧ M = [(0, vT), (3, v1), (6, .int .i64 i2)] ∧ Sat w0 w [.own v1 1 3 t.n (ints fs)]) ⟨1, rfl, (by omega), (by omega), ?_, rfl, hS⟩ ?_
  ·
   intro j j0 j1; omega
  clear hS w
  rintro mm M w ⟨i2, rfl, h20, h21, hone, rfl, hS⟩
  refine zsq <| zsr ?_
  refine zs2 ?_
  refine zlv (xln sl_54 hT.row.slh) ?_
  refine zlv xlss ?_
  refine zlt ?_
  refine zcif ?_ ?_ <;> intro hc
  ·
   refine zsk <| ztn <| zsq <| zbk <| zsr ?_
   refine zs2 ?_
   refine zlv (xix (kk := i2) sl_52 hv1) ?_
   refine zlv (xlr (u := .int .i64 (fs i2)) pl_3 (hS.rowN 0 rfl)) ?_
   refine zlv xneq ?_
   refine zlt ?_
   refine zcif ?_ ?_ <;> intro hc
   ·
    refine zsr ?_
    refine zlv xas ?_
    refine zlt <| zrt <| zbr <| ztr <| ztr <| zbr <| ztr <| zf1 ⟨_, rfl, ?_⟩
    exact ⟨false_B (by intro hs; first | (have h1 := hs.n1; have h2 := hs.n2; omega) | exact hs.lf i h0 (by omega) (show t.leaf i from ‹t.F i = -1 ∧ t.S i = -1›) ‹t.V i› | (have h3 := hs.kd i h0 (by omega) (show ¬ t.leaf i from ‹¬ (t.F i = -1 ∧ t.S i = -1)›); omega) | (have h4 := hs.one i2 (by omega) (by omega); have h5 := hfs i2 (by omega) (by omega); rw [show i = t.n by omega] at h5; omega)), hS.nl⟩
   refine zsk <| zbn <| ztn <| zrg ?_
   refine zlv xmv ?_
   refine zlv (xadd (r := i2 + 1)) ?_
   refine zlv xas ?_
   refine zln <| zlq ⟨i2 + 1, rfl, (by omega), (by omega), ?_, rfl, hS⟩
   ·
    intro j j0 j1; rcases Int.lt_or_eq_of_le (show j ≤ i2 by omega) with hk | hk
    · exact hone j j0 hk
    · rw [hk]; have h5 := hfs i2 (by omega) (by omega); rw [show i = t.n by omega] at h5; omega
  refine zxt <| ztx <| ztx <| zbh <| ztn <| zsr ?_
  refine zlv xas ?_
  refine zlt <| zrt <| zf1 ⟨_, rfl, ?_⟩
  exact ⟨true_B (by exact ⟨by omega, by omega, fun k k0 k1 => (hkd k k0 (by omega)).1, fun k k0 k1 => (hkd k k0 (by omega)).2, fun j j0 j1 => hone j j0 (by omega)⟩), hS.nl⟩

end Go.Proofs.Ytmlfpniaknmmfaa
