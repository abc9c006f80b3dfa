/- Part 2 of the texts that the proof needs. -/
import Derived.Test.YtopmifmfecfaaaaRrA
import Derived.Laws.StructEq
import Derived.ArgAppend
set_option linter.unusedVariables false
set_option linter.unusedSimpArgs false
namespace Go.Proofs.Ytopmifmfecfaaaa
open Go Go.RowKit Go.Proofs.Gw
theorem cl_10 : calledT Try.prog 10 = true := by kernel_rfl
theorem cl_110 : calledT Try.prog 110 = true := by kernel_rfl
theorem cl_31 : calledT Try.prog 31 = true := by kernel_rfl
theorem cl_34 : calledT Try.prog 34 = true := by kernel_rfl
theorem cl_46 : calledT Try.prog 46 = true := by kernel_rfl
theorem cl_67 : calledT Try.prog 67 = true := by kernel_rfl
theorem cl_70 : calledT Try.prog 70 = true := by kernel_rfl
theorem cl_87 : calledT Try.prog 87 = true := by kernel_rfl
theorem cl_89 : calledT Try.prog 89 = true := by kernel_rfl
theorem fd_24_0 : fieldT Try.prog 24 0 = some 0 := by kernel_rfl
theorem fd_24_1 : fieldT Try.prog 24 1 = some 1 := by kernel_rfl
theorem fd_24_2 : fieldT Try.prog 24 2 = some 2 := by kernel_rfl
theorem fd_24_3 : fieldT Try.prog 24 3 = some 3 := by kernel_rfl
theorem fd_34_0 : fieldT Try.prog 34 0 = some 0 := by kernel_rfl
theorem fd_34_1 : fieldT Try.prog 34 1 = some 1 := by kernel_rfl
theorem fd_39_0 : fieldT Try.prog 39 0 = some 0 := by kernel_rfl
theorem fd_39_1 : fieldT Try.prog 39 1 = some 1 := by kernel_rfl
theorem fd_39_2 : fieldT Try.prog 39 2 = some 2 := by kernel_rfl
theorem fd_39_3 : fieldT Try.prog 39 3 = some 3 := by kernel_rfl
theorem sl_25 : sliceT Try.prog 25 = some (34, 2) := by kernel_rfl
theorem st_24 : structT Try.prog 24 = some 4 := by kernel_rfl
theorem st_39 : structT Try.prog 39 = some 4 := by kernel_rfl
set_option maxRecDepth 20000 in
theorem c_pvalid {vL vD : Value} {p : Prob} (w0 : World) (h : PAt w0 vL vD p) :
    Calls Try.prog 34 [.agg #[vL, vD, .int .i64 p.stock, .int .i64 p.kerf]].toArray w0 fun e w => ∃ v, e = .returned v ∧ v = B p.Ok ∧ Sat w0 w [] := by
  have hm := h.L.slh.n0; have hm1 := h.L.slh.n1; have hd := h.D.slh.n0; have hs := h.is; have hk := h.ik
  refine zenG Try.func34 Try.ntmps34 fun w hS => ?_
  refine zsr ?_
  refine zla (xbx (cs := [_, _, _, _]) hS) ?_; rintro _ w ⟨g1, rfl, hS⟩
  replace hS := hS.n1
  refine zlv xas ?_
  refine zlt <| zsq <| zsr ?_
  refine zlv (xfb 0 fd_39_0) ?_
  refine zlv (xlb 0 pl_22 hS) ?_
  refine zlv (xln sl_22 h.L.slh) ?_
  refine zs2 ?_
  refine zlb 9 ?_ ?_ <;> intro hc
  ·
   iterate 4 refine zlo ?_
   refine zs2 ?_
   iterate 7 refine zlo ?_
   refine zs2 ?_
   iterate 3 refine zlo ?_
   refine zs2 ?_
   iterate 3 refine zlo ?_
   refine zs2 ?_
   iterate 3 refine zlo ?_
   refine zs2 ?_
   iterate 3 refine zlo ?_
   refine zlv xpt ?_
   refine zlt <| zct <| zsr ?_
   refine zlv xas ?_
   refine zlt <| zrt <| ztr <| zf1 ⟨_, rfl, ?_⟩
   first
   | exact ⟨false_B (by intro hk; have h1 := hk.m1; have h2 := hk.m2; have h3 := hk.d; have h4 := hk.s1; have h5 := hk.s2; have h6 := hk.k1; have h7 := hk.k2; omega), hS.nl⟩
   | exact ⟨false_B (by intro hk; have := hk.all i (by omega) (by omega); unfold Prob.each at this; omega), hS.nl⟩
  refine zlv (xfb 0 fd_39_0) ?_
  refine zlv (xlb 0 pl_22 hS) ?_
  refine zlv (xln sl_22 h.L.slh) ?_
  refine zs3 ?_
  refine zlb 15 ?_ ?_ <;> intro hc
  ·
   iterate 7 refine zlo ?_
   refine zs2 ?_
   iterate 3 refine zlo ?_
   refine zs2 ?_
   iterate 3 refine zlo ?_
   refine zs2 ?_
   iterate 3 refine zlo ?_
   refine zs2 ?_
   iterate 3 refine zlo ?_
   refine zlv xpt ?_
   refine zlt <| zct <| zsr ?_
   refine zlv xas ?_
   refine zlt <| zrt <| ztr <| zf1 ⟨_, rfl, ?_⟩
   first
   | exact ⟨false_B (by intro hk; have h1 := hk.m1; have h2 := hk.m2; have h3 := hk.d; have h4 := hk.s1; have h5 := hk.s2; have h6 := hk.k1; have h7 := hk.k2; omega), hS.nl⟩
   | exact ⟨false_B (by intro hk; have := hk.all i (by omega) (by omega); unfold Prob.each at this; omega), hS.nl⟩
  refine zlv (xfb 1 fd_39_1) ?_
  refine zlv (xlb 0 pl_22 hS) ?_
  refine zlv (xln sl_22 h.D.slh) ?_
  refine zlv (xfb 0 fd_39_0) ?_
  refine zlv (xlb 0 pl_22 hS) ?_
  refine zlv (xln sl_22 h.L.slh) ?_
  refine zs3 ?_
  refine zlb 24 ?_ ?_ <;> intro hc
  ·
   iterate 3 refine zlo ?_
   refine zs2 ?_
   iterate 3 refine zlo ?_
   refine zs2 ?_
   iterate 3 refine zlo ?_
   refine zs2 ?_
   iterate 3 refine zlo ?_
   refine zlv xpt ?_
   refine zlt <| zct <| zsr ?_
   refine zlv xas ?_
   refine zlt <| zrt <| ztr <| zf1 ⟨_, rfl, ?_⟩
   first
   | exact ⟨false_B (by intro hk; have h1 := hk.m1; have h2 := hk.m2; have h3 := hk.d; have h4 := hk.s1; have h5 := hk.s2; have h6 := hk.k1; have h7 := hk.k2; omega), hS.nl⟩
   | exact ⟨false_B (by intro hk; have := hk.all i (by omega) (by omega); unfold Prob.each at this; omega), hS.nl⟩
  refine zlv (xfb 2 fd_39_2) ?_
  refine zlv (xlb 0 pl_3 hS) ?_
  refine zs3 ?_
  refine zlb 29 ?_ ?_ <;> intro hc
  ·
   iterate 3 refine zlo ?_
   refine zs2 ?_
   iterate 3 refine zlo ?_
   refine zs2 ?_
   iterate 3 refine zlo ?_
   refine zlv xpt ?_
   refine zlt <| zct <| zsr ?_
   refine zlv xas ?_
   refine zlt <| zrt <| ztr <| zf1 ⟨_, rfl, ?_⟩
   first
   | exact ⟨false_B (by intro hk; have h1 := hk.m1; have h2 := hk.m2; have h3 := hk.d; have h4 := hk.s1; have h5 := hk.s2; have h6 := hk.k1; have h7 := hk.k2; omega), hS.nl⟩
   | exact ⟨false_B (by intro hk; have := hk.all i (by omega) (by omega); unfold Prob.each at this; omega), hS.nl⟩
  refine zlv (xfb 2 fd_39_2) ?_
  refine zlv (xlb 0 pl_3 hS) ?_
  refine zs3 ?_
  refine zlb 34 ?_ ?_ <;> intro hc
  ·
   iterate 3 refine zlo ?_
   refine zs2 ?_
   iterate 3 refine zlo ?_
   refine zlv xpt ?_
   refine zlt <| zct <| zsr ?_
   refine zlv xas ?_
   refine zlt <| zrt <| ztr <| zf1 ⟨_, rfl, ?_⟩
   first
   | exact ⟨false_B (by intro hk; have h1 := hk.m1; have h2 := hk.m2; have h3 := hk.d; have h4 := hk.s1; have h5 := hk.s2; have h6 := hk.k1; have h7 := hk.k2; omega), hS.nl⟩
   | exact ⟨false_B (by intro hk; have := hk.all i (by omega) (by omega); unfold Prob.each at this; omega), hS.nl⟩
  refine zlv (xfb 3 fd_39_3) ?_
  refine zlv (xlb 0 pl_3 hS) ?_
  refine zs3 ?_
  refine zlb 39 ?_ ?_ <;> intro hc
  ·
   iterate 3 refine zlo ?_
   refine zlv xpt ?_
   refine zlt <| zct <| zsr ?_
   refine zlv xas ?_
   refine zlt <| zrt <| ztr <| zf1 ⟨_, rfl, ?_⟩
   first
   | exact ⟨false_B (by intro hk; have h1 := hk.m1; have h2 := hk.m2; have h3 := hk.d; have h4 := hk.s1; have h5 := hk.s2; have h6 := hk.k1; have h7 := hk.k2; omega), hS.nl⟩
   | exact ⟨false_B (by intro hk; have := hk.all i (by omega) (by omega); unfold Prob.each at this; omega), hS.nl⟩
  refine zlv (xfb 3 fd_39_3) ?_
  refine zlv (xlb 0 pl_3 hS) ?_
  refine zs2 ?_
  refine zlt ?_
  refine zcif ?_ ?_ <;> intro hc
  ·
   refine zsr ?_
   refine zlv xas ?_
   refine zlt <| zrt <| ztr <| zf1 ⟨_, rfl, ?_⟩
   first
   | exact ⟨false_B (by intro hk; have h1 := hk.m1; have h2 := hk.m2; have h3 := hk.d; have h4 := hk.s1; have h5 := hk.s2; have h6 := hk.k1; have h7 := hk.k2; omega), hS.nl⟩
   | exact ⟨false_B (by intro hk; have := hk.all i (by omega) (by omega); unfold Prob.each at this; omega), hS.nl⟩
  refine zsk <| ztn <| zsq <| zsr ?_
  refine zlv (xfb 0 fd_39_0) ?_
  refine zlv (xlb 0 pl_22 hS) ?_
  refine zlv (xln sl_22 h.L.slh) ?_
  refine zlv xmv ?_
  refine zlt <| zbk <| zlp (fun mm M w => ∃ (i : Int), mm = ((p.m - i).toNat) ∧ (0 ≤ i) ∧ (i ≤ p.m) ∧ (∀ k, 0 ≤ k → k < i → p.each k) ∧ M = [(1, .pointer (some ⟨g1, 0, none⟩)), (45, vL), (46, .int .i64 p.m), (47, .int .i64 i)] ∧ Sat w0 w [.blk g1 [vL, vD, .int .i64 p.stock, .int .i64 p.kerf]]) ⟨0, rfl, (by omega), (by omega), ?_, rfl, hS⟩ ?_
  ·
   intro k h0 h1; omega
  clear hS w
  rintro mm M w ⟨i, rfl, h0, h1, hall, rfl, hS⟩
  refine zsr ?_
  refine zlv xlss ?_
  refine zlt <| zsq ?_
  refine zcif ?_ ?_ <;> intro hc
  ·
   refine zsk <| ztn <| zsq <| zbk <| zsr ?_
   refine zlv xmv ?_
   refine zlv (xix (kk := i) sl_22 h.L.slh) ?_
   refine zlv (xlr (u := .int .i64 (p.L i)) pl_3 (h.L.below hS.below)) ?_
   have hbv := h.iL i
   refine zs2 ?_
   refine zlz ?_
   refine zs3 ?_
   refine zlb 54 ?_ ?_ <;> intro hc
   ·
    iterate 4 refine zlo ?_
    refine zs2 ?_
    iterate 12 refine zlo ?_
    refine zs2 ?_
    iterate 6 refine zlo ?_
    refine zs2 ?_
    iterate 6 refine zlo ?_
    refine zlv xpt ?_
    refine zlt <| zct <| zsr ?_
    refine zlv xas ?_
    refine zlt <| zrt <| zbr <| ztr <| ztr <| zbr <| ztr <| zf1 ⟨_, rfl, ?_⟩
    first
    | exact ⟨false_B (by intro hk; have h1 := hk.m1; have h2 := hk.m2; have h3 := hk.d; have h4 := hk.s1; have h5 := hk.s2; have h6 := hk.k1; have h7 := hk.k2; omega), hS.nl⟩
    | exact ⟨false_B (by intro hk; have := hk.all i (by omega) (by omega); unfold Prob.each at this; omega), hS.nl⟩
   refine zlv xmv ?_
   refine zlv (xfb 2 fd_39_2) ?_
   refine zlv (xlb 0 pl_3 hS) ?_
   refine zs3 ?_
   refine zlb 60 ?_ ?_ <;> intro hc
   ·
    iterate 12 refine zlo ?_
    refine zs2 ?_
    iterate 6 refine zlo ?_
    refine zs2 ?_
    iterate 6 refine zlo ?_
    refine zlv xpt ?_
    refine zlt <| zct <| zsr ?_
    refine zlv xas ?_
    refine zlt <| zrt <| zbr <| ztr <| ztr <| zbr <| ztr <| zf1 ⟨_, rfl, ?_⟩
    first
    | exact ⟨false_B (by intro hk; have h1 := hk.m1; have h2 := hk.m2; have h3 := hk.d; have h4 := hk.s1; have h5 := hk.s2; have h6 := hk.k1; have h7 := hk.k2; omega), hS.nl⟩
    | exact ⟨false_B (by intro hk; have := hk.all i (by omega) (by omega); unfold Prob.each at this; omega), hS.nl⟩
   refine zs3 ?_
   refine zlb 63 ?_ ?_ <;> intro hc
   ·
    refine zlv xmv ?_
    refine zlv (xfb 0 fd_39_0) ?_
    refine zlv (xlb 0 pl_22 hS) ?_
    refine zlv xmv ?_
    refine zlv (xsub (r := i - 1)) ?_
    refine zlv (xix (kk := i - 1) sl_22 h.L.slh) ?_
    refine zlv (xlr (u := .int .i64 (p.L (i - 1))) pl_3 (h.L.below hS.below)) ?_
    have hbv := h.iL (i - 1)
    refine zs4 ?_
    refine zlb 74 ?_ ?_ <;> intro hc
    ·
     iterate 6 refine zlo ?_
     refine zs2 ?_
     iterate 6 refine zlo ?_
     refine zlv xpt ?_
     refine zlt <| zct <| zsr ?_
     refine zlv xas ?_
     refine zlt <| zrt <| zbr <| ztr <| ztr <| zbr <| ztr <| zf1 ⟨_, rfl, ?_⟩
     first
     | exact ⟨false_B (by intro hk; have h1 := hk.m1; have h2 := hk.m2; have h3 := hk.d; have h4 := hk.s1; have h5 := hk.s2; have h6 := hk.k1; have h7 := hk.k2; omega), hS.nl⟩
     | exact ⟨false_B (by intro hk; have := hk.all i (by omega) (by omega); unfold Prob.each at this; omega), hS.nl⟩
    refine zlv (xfb 1 fd_39_1) ?_
    refine zlv (xlb 0 pl_22 hS) ?_
    refine zlv xmv ?_
    refine zlv (xix (kk := i) sl_22 h.D.slh) ?_
    refine zlv (xlr (u := .int .i64 (p.D i)) pl_3 (h.D.below hS.below)) ?_
    have hbv := h.iD i
    refine zs3 ?_
    refine zlb 82 ?_ ?_ <;> intro hc
    ·
     iterate 6 refine zlo ?_
     refine zlv xpt ?_
     refine zlt <| zct <| zsr ?_
     refine zlv xas ?_
     refine zlt <| zrt <| zbr <| ztr <| ztr <| zbr <| ztr <| zf1 ⟨_, rfl, ?_⟩
     first
     | exact ⟨false_B (by intro hk; have h1 := hk.m1; have h2 := hk.m2; have h3 := hk.d; have h4 := hk.s1; have h5 := hk.s2; have h6 := hk.k1; have h7 := hk.k2; omega), hS.nl⟩
     | exact ⟨false_B (by intro hk; have := hk.all i (by omega) (by omega); unfold Prob.each at this; omega), hS.nl⟩
    refine zlv (xfb 1 fd_39_1) ?_
    refine zlv (xlb 0 pl_22 hS) ?_
    refine zlv xmv ?_
    refine zlv (xix (kk := i) sl_22 h.D.slh) ?_
    refine zlv (xlr (u := .int .i64 (p.D i)) pl_3 (h.D.below hS.below)) ?_
    have hbv := h.iD i
    refine zs2 ?_
    refine zlt ?_
    refine zcif ?_ ?_ <;> intro hc
    ·
     refine zsr ?_
     refine zlv xas ?_
     refine zlt <| zrt <| zbr <| ztr <| ztr <| zbr <| ztr <| zf1 ⟨_, rfl, ?_⟩
     first
     | exact ⟨false_B (by intro hk; have h1 := hk.m1; have h2 := hk.m2; have h3 := hk.d; have h4 := hk.s1; have h5 := hk.s2; have h6 := hk.k1; have h7 := hk.k2; omega), hS.nl⟩
     | exact ⟨false_B (by intro hk; have := hk.all i (by omega) (by omega); unfold Prob.each at this; omega), hS.nl⟩
    refine zsk <| zbn <| ztn <| zrg ?_
    refine zlv (xadd (r := i + 1)) ?_
    refine zlv xmv ?_
    refine zln <| zlq ⟨i + 1, rfl, (by omega), (by omega), ?_, rfl, hS⟩
    ·
     intro k h0' h1'; rcases Int.lt_or_eq_of_le (show k ≤ i by omega) with hk | hk; exact hall k h0' hk; rw [hk]; unfold Prob.each; omega
   iterate 8 refine zlo ?_
   refine zs3 ?_
   refine zlv (xfb 1 fd_39_1) ?_
   refine zlv (xlb 0 pl_22 hS) ?_
   refine zlv xmv ?_
   refine zlv (xix (kk := i) sl_22 h.D.slh) ?_
   refine zlv (xlr (u := .int .i64 (p.D i)) pl_3 (h.D.below hS.below)) ?_
   have hbv := h.iD i
   refine zs3 ?_
   refine zlb 82 ?_ ?_ <;> intro hc
   ·
    iterate 6 refine zlo ?_
    refine zlv xpt ?_
    refine zlt <| zct <| zsr ?_
    refine zlv xas ?_
    refine zlt <| zrt <| zbr <| ztr <| ztr <| zbr <| ztr <| zf1 ⟨_, rfl, ?_⟩
    first
    | exact ⟨false_B (by intro hk; have h1 := hk.m1; have h2 := hk.m2; have h3 := hk.d; have h4 := hk.s1; have h5 := hk.s2; have h6 := hk.k1; have h7 := hk.k2; omega), hS.nl⟩
    | exact ⟨false_B (by intro hk; have := hk.all i (by omega) (by omega); unfold Prob.each at this; omega), hS.nl⟩
   refine zlv (xfb 1 fd_39_1) ?_
   refine zlv (xlb 0 pl_22 hS) ?_
   refine zlv xmv ?_
   refine zlv (xix (kk := i) sl_22 h.D.slh) ?_
   refine zlv (xlr (u := .int .i64 (p.D i)) pl_3 (h.D.below hS.below)) ?_
   have hbv := h.iD i
   refine zs2 ?_
   refine zlt ?_
   refine zcif ?_ ?_ <;> intro hc
   ·
    refine zsr ?_
    refine zlv xas ?_
    refine zlt <| zrt <| zbr <| ztr <| ztr <| zbr <| ztr <| zf1 ⟨_, rfl, ?_⟩
    first
    | exact ⟨false_B (by intro hk; have h1 := hk.m1; have h2 := hk.m2; have h3 := hk.d; have h4 := hk.s1; have h5 := hk.s2; have h6 := hk.k1; have h7 := hk.k2; omega), hS.nl⟩
    | exact ⟨false_B (by intro hk; have := hk.all i (by omega) (by omega); unfold Prob.each at this; omega), hS.nl⟩
   refine zsk <| zbn <| ztn <| zrg ?_
   refine zlv (xadd (r := i + 1)) ?_
   refine zlv xmv ?_
   refine zln <| zlq ⟨i + 1, rfl, (by omega), (by omega), ?_, rfl, hS⟩
   ·
    intro k h0' h1'; rcases Int.lt_or_eq_of_le (show k ≤ i by omega) with hk | hk; exact hall k h0' hk; rw [hk]; unfold Prob.each; omega
  refine zxt <| ztx <| ztx <| zbh <| ztn <| zsr ?_
  refine zlv xas ?_
  refine zlt <| zrt <| zf1 ⟨_, rfl, ?_⟩
  exact ⟨true_B ⟨by omega, by omega, by omega, by omega, by omega, by omega, by omega, fun k h0 h1 => hall k h0 (by omega)⟩, hS.nl⟩
set_option maxRecDepth 20000 in
theorem c_rvalid28 {vL vD : Value} {p : Prob} (w0 : World) (h : PAt w0 vL vD p) :
    Calls Try.prog 10 [.agg #[vL, vD, .int .i64 p.stock, .int .i64 p.kerf]].toArray w0 fun e w => ∃ v, e = .returned v ∧ v = B p.Ok ∧ Sat w0 w [] := by
  have hm := h.L.slh.n0; have hm1 := h.L.slh.n1; have hd := h.D.slh.n0; have hs := h.is; have hk := h.ik
  refine zenG Try.func10 Try.ntmps10 fun w hS => ?_
  refine zsr ?_
  refine zla (xbx (cs := [_, _, _, _]) hS) ?_; rintro _ w ⟨g1, rfl, hS⟩
  replace hS := hS.n1
  refine zlv xas ?_
  refine zlz ?_
  refine zlv (xfb 0 fd_24_0) ?_
  refine zlv (xlb 0 pl_22 hS) ?_
  refine zlv (xln sl_22 h.L.slh) ?_
  refine zlv xas ?_
  refine zlt <| zsq <| zsr ?_
  refine zs3 ?_
  refine zlb 10 ?_ ?_ <;> intro hc
  ·
   iterate 2 refine zlo ?_
   refine zs2 ?_
   iterate 5 refine zlo ?_
   refine zs2 ?_
   iterate 3 refine zlo ?_
   refine zs2 ?_
   iterate 3 refine zlo ?_
   refine zs2 ?_
   iterate 3 refine zlo ?_
   refine zs2 ?_
   iterate 3 refine zlo ?_
   refine zlv xpt ?_
   refine zlt <| zct <| zsr ?_
   refine zlv xas ?_
   refine zlt <| zrt <| ztr <| zf1 ⟨_, rfl, ?_⟩
   first
   | exact ⟨false_B (by intro hk; have h1 := hk.m1; have h2 := hk.m2; have h3 := hk.d; have h4 := hk.s1; have h5 := hk.s2; have h6 := hk.k1; have h7 := hk.k2; omega), hS.nl⟩
   | exact ⟨false_B (by intro hk; have := hk.all i (by omega) (by omega); unfold Prob.each at this; omega), hS.nl⟩
  refine zs4 ?_
  refine zlb 14 ?_ ?_ <;> intro hc
  ·
   iterate 5 refine zlo ?_
   refine zs2 ?_
   iterate 3 refine zlo ?_
   refine zs2 ?_
   iterate 3 refine zlo ?_
   refine zs2 ?_
   iterate 3 refine zlo ?_
   refine zs2 ?_
   iterate 3 refine zlo ?_
   refine zlv xpt ?_
   refine zlt <| zct <| zsr ?_
   refine zlv xas ?_
   refine zlt <| zrt <| ztr <| zf1 ⟨_, rfl, ?_⟩
   first
   | exact ⟨false_B (by intro hk; have h1 := hk.m1; have h2 := hk.m2; have h3 := hk.d; have h4 := hk.s1; have h5 := hk.s2; have h6 := hk.k1; have h7 := hk.k2; omega), hS.nl⟩
   | exact ⟨false_B (by intro hk; have := hk.all i (by omega) (by omega); unfold Prob.each at this; omega), hS.nl⟩
  refine zlv (xfb 1 fd_24_1) ?_
  refine zlv (xlb 0 pl_22 hS) ?_
  refine zlv (xln sl_22 h.D.slh) ?_
  refine zs4 ?_
  refine zlb 21 ?_ ?_ <;> intro hc
  ·
   iterate 3 refine zlo ?_
   refine zs2 ?_
   iterate 3 refine zlo ?_
   refine zs2 ?_
   iterate 3 refine zlo ?_
   refine zs2 ?_
   iterate 3 refine zlo ?_
   refine zlv xpt ?_
   refine zlt <| zct <| zsr ?_
   refine zlv xas ?_
   refine zlt <| zrt <| ztr <| zf1 ⟨_, rfl, ?_⟩
   first
   | exact ⟨false_B (by intro hk; have h1 := hk.m1; have h2 := hk.m2; have h3 := hk.d; have h4 := hk.s1; have h5 := hk.s2; have h6 := hk.k1; have h7 := hk.k2; omega), hS.nl⟩
   | exact ⟨false_B (by intro hk; have := hk.all i (by omega) (by omega); unfold Prob.each at this; omega), hS.nl⟩
  refine zlv (xfb 2 fd_24_2) ?_
  refine zlv (xlb 0 pl_3 hS) ?_
  refine zs3 ?_
  refine zlb 26 ?_ ?_ <;> intro hc
  ·
   iterate 3 refine zlo ?_
   refine zs2 ?_
   iterate 3 refine zlo ?_
   refine zs2 ?_
   iterate 3 refine zlo ?_
   refine zlv xpt ?_
   refine zlt <| zct <| zsr ?_
   refine zlv xas ?_
   refine zlt <| zrt <| ztr <| zf1 ⟨_, rfl, ?_⟩
   first
   | exact ⟨false_B (by intro hk; have h1 := hk.m1; have h2 := hk.m2; have h3 := hk.d; have h4 := hk.s1; have h5 := hk.s2; have h6 := hk.k1; have h7 := hk.k2; omega), hS.nl⟩
   | exact ⟨false_B (by intro hk; have := hk.all i (by omega) (by omega); unfold Prob.each at this; omega), hS.nl⟩
  refine zlv (xfb 2 fd_24_2) ?_
  refine zlv (xlb 0 pl_3 hS) ?_
  refine zs3 ?_
  refine zlb 31 ?_ ?_ <;> intro hc
  ·
   iterate 3 refine zlo ?_
   refine zs2 ?_
   iterate 3 refine zlo ?_
   refine zlv xpt ?_
   refine zlt <| zct <| zsr ?_
   refine zlv xas ?_
   refine zlt <| zrt <| ztr <| zf1 ⟨_, rfl, ?_⟩
   first
   | exact ⟨false_B (by intro hk; have h1 := hk.m1; have h2 := hk.m2; have h3 := hk.d; have h4 := hk.s1; have h5 := hk.s2; have h6 := hk.k1; have h7 := hk.k2; omega), hS.nl⟩
   | exact ⟨false_B (by intro hk; have := hk.all i (by omega) (by omega); unfold Prob.each at this; omega), hS.nl⟩
  refine zlv (xfb 3 fd_24_3) ?_
  refine zlv (xlb 0 pl_3 hS) ?_
  refine zs3 ?_
  refine zlb 36 ?_ ?_ <;> intro hc
  ·
   iterate 3 refine zlo ?_
   refine zlv xpt ?_
   refine zlt <| zct <| zsr ?_
   refine zlv xas ?_
   refine zlt <| zrt <| ztr <| zf1 ⟨_, rfl, ?_⟩
   first
   | exact ⟨false_B (by intro hk; have h1 := hk.m1; have h2 := hk.m2; have h3 := hk.d; have h4 := hk.s1; have h5 := hk.s2; have h6 := hk.k1; have h7 := hk.k2; omega), hS.nl⟩
   | exact ⟨false_B (by intro hk; have := hk.all i (by omega) (by omega); unfold Prob.each at this; omega), hS.nl⟩
  refine zlv (xfb 3 fd_24_3) ?_
  refine zlv (xlb 0 pl_3 hS) ?_
  refine zs2 ?_
  refine zlt ?_
  refine zcif ?_ ?_ <;> intro hc
  ·
   refine zsr ?_
   refine zlv xas ?_
   refine zlt <| zrt <| ztr <| zf1 ⟨_, rfl, ?_⟩
   first
   | exact ⟨false_B (by intro hk; have h1 := hk.m1; have h2 := hk.m2; have h3 := hk.d; have h4 := hk.s1; have h5 := hk.s2; have h6 := hk.k1; have h7 := hk.k2; omega), hS.nl⟩
   | exact ⟨false_B (by intro hk; have := hk.all i (by omega) (by omega); unfold Prob.each at this; omega), hS.nl⟩
  refine zsk <| ztn <| zsq <| zsr ?_
  refine zlv xas ?_
  refine zlt <| zbk <| zlp (fun mm M w => ∃ (i : Int), mm = ((p.m - i).toNat) ∧ (0 ≤ i) ∧ (i ≤ p.m) ∧ (∀ k, 0 ≤ k → k < i → p.each k) ∧ M = [(1, .pointer (some ⟨g1, 0, none⟩)), (3, .int .i64 p.m), (4, .int .i64 i)] ∧ Sat w0 w [.blk g1 [vL, vD, .int .i64 p.stock, .int .i64 p.kerf]]) ⟨0, rfl, (by omega), (by omega), ?_, rfl, hS⟩ ?_
  ·
   intro k h0 h1; omega
  clear hS w
  rintro mm M w ⟨i, rfl, h0, h1, hall, rfl, hS⟩
  refine zsq <| zsr ?_
  refine zs3 ?_
  refine zlt ?_
  refine zcif ?_ ?_ <;> intro hc
  ·
   refine zsk <| ztn <| zsq <| zbk <| zsq ?_
   refine zdst [0] [0] 1000 mx_ hS ?_; clear hS; intro w hS
   refine zdv 0 (fun _ => (xfb 0 fd_24_0)) ?_
   refine zdla 1 (fun w hS => (xlb 0 pl_22 hS)) ?_
   refine zdv 2 (fun _ => xmv) ?_
   refine zdv 3 (fun _ => (xix (kk := i) sl_22 h.L.slh)) ?_
   refine zdla 4 (fun w hS => (xlr (u := .int .i64 (p.L i)) pl_3 (h.L.below hS.below))) ?_
   have hbv := h.iL i
   refine zdv 5 (fun _ => xlss) ?_
   refine zdv 6 (fun _ => xmv) ?_
   refine zdb 52 ?_ ?_ <;> intro hc
   ·
    refine zdof 7 ?_
    refine zdof 8 ?_
    refine zdof 9 ?_
    refine zdof 10 ?_
    refine zdof 11 ?_
    refine zdof 12 ?_
    refine zdof 13 ?_
    refine zdof 14 ?_
    refine zdv 15 (fun _ => xpt) ?_
    refine zdv 16 (fun _ => xmv) ?_
    refine zdof 17 ?_
    refine zdof 18 ?_
    refine zdof 19 ?_
    refine zdof 20 ?_
    refine zdof 21 ?_
    refine zdof 22 ?_
    refine zdof 23 ?_
    refine zdof 24 ?_
    refine zdof 25 ?_
    refine zdof 26 ?_
    refine zdof 27 ?_
    refine zdof 28 ?_
    refine zdof 29 ?_
    refine zdof 30 ?_
    refine zdof 31 ?_
    refine zdof 32 ?_
    refine zdv 33 (fun _ => xpt) ?_
    refine zdv 34 (fun _ => xmv) ?_
    refine zdof 35 ?_
    refine zdof 36 ?_
    refine zdof 37 ?_
    refine zdof 38 ?_
    refine zdof 39 ?_
    refine zdof 40 ?_
    refine zdv 41 (fun _ => xpt) ?_
    refine zdv 42 (fun _ => xmv) ?_
    refine zdof 43 ?_
    refine zdof 44 ?_
    refine zdof 45 ?_
    refine zdof 46 ?_
    refine zdof 47 ?_
    refine zdof 48 ?_
    refine zdv 49 (fun _ => xpt) ?_
    refine zdd <| ztn <| zct <| zsr ?_
    refine zlv xas ?_
    refine zlt <| zrt <| zbr <| ztr <| ztr <| zbr <| ztr <| zf1 ⟨_, rfl, ?_⟩
    first
    | exact ⟨false_B (by intro hk; have h1 := hk.m1; have h2 := hk.m2; have h3 := hk.d; have h4 := hk.s1; have h5 := hk.s2; have h6 := hk.k1; have h7 := hk.k2; omega), hS.nl⟩
    | exact ⟨false_B (by intro hk; have := hk.all i (by omega) (by omega); unfold Prob.each at this; omega), hS.nl⟩
   refine zdv 7 (fun _ => (xfb 0 fd_24_0)) ?_
   refine zdla 8 (fun w hS => (xlb 0 pl_22 hS)) ?_
   refine zdv 9 (fun _ => xmv) ?_
   refine zdv 10 (fun _ => (xix (kk := i) sl_22 h.L.slh)) ?_
   refine zdla 11 (fun w hS => (xlr (u := .int .i64 (p.L i)) pl_3 (h.L.below hS.below))) ?_
   have hbv := h.iL i
   refine zdv 12 (fun _ => (xfb 2 fd_24_2)) ?_
   refine zdla 13 (fun w hS => (xlb 0 pl_3 hS)) ?_
   refine zdv 14 (fun _ => xgtr) ?_
   refine zdv 15 (fun _ => xpf) ?_
   refine zdv 16 (fun _ => xmv) ?_
   refine zdb 62 ?_ ?_ <;> intro hc
   ·
    refine zdof 17 ?_
    refine zdof 18 ?_
    refine zdof 19 ?_
    refine zdof 20 ?_
    refine zdof 21 ?_
    refine zdof 22 ?_
    refine zdof 23 ?_
    refine zdof 24 ?_
    refine zdof 25 ?_
    refine zdof 26 ?_
    refine zdof 27 ?_
    refine zdof 28 ?_
    refine zdof 29 ?_
    refine zdof 30 ?_
    refine zdof 31 ?_
    refine zdof 32 ?_
    refine zdv 33 (fun _ => xpt) ?_
    refine zdv 34 (fun _ => xmv) ?_
    refine zdof 35 ?_
    refine zdof 36 ?_
    refine zdof 37 ?_
    refine zdof 38 ?_
    refine zdof 39 ?_
    refine zdof 40 ?_
    refine zdv 41 (fun _ => xpt) ?_
    refine zdv 42 (fun _ => xmv) ?_
    refine zdof 43 ?_
    refine zdof 44 ?_
    refine zdof 45 ?_
    refine zdof 46 ?_
    refine zdof 47 ?_
    refine zdof 48 ?_
    refine zdv 49 (fun _ => xpt) ?_
    refine zdd <| ztn <| zct <| zsr ?_
    refine zlv xas ?_
    refine zlt <| zrt <| zbr <| ztr <| ztr <| zbr <| ztr <| zf1 ⟨_, rfl, ?_⟩
    first
    | exact ⟨false_B (by intro hk; have h1 := hk.m1; have h2 := hk.m2; have h3 := hk.d; have h4 := hk.s1; have h5 := hk.s2; have h6 := hk.k1; have h7 := hk.k2; omega), hS.nl⟩
    | exact ⟨false_B (by intro hk; have := hk.all i (by omega) (by omega); unfold Prob.each at this; omega), hS.nl⟩
   refine zdv 17 (fun _ => xmv) ?_
   refine zdv 18 (fun _ => xgtr) ?_
   refine zdv 19 (fun _ => xmv) ?_
   refine zdb 65 ?_ ?_ <;> intro hc
   ·
    refine zdv 20 (fun _ => (xfb 0 fd_24_0)) ?_
    refine zdla 21 (fun w hS => (xlb 0 pl_22 hS)) ?_
    refine zdv 22 (fun _ => xmv) ?_
    refine zdv 23 (fun _ => (xix (kk := i) sl_22 h.L.slh)) ?_
    refine zdla 24 (fun w hS => (xlr (u := .int .i64 (p.L i)) pl_3 (h.L.below hS.below))) ?_
    have hbv := h.iL i
    refine zdv 25 (fun _ => (xfb 0 fd_24_0)) ?_
    refine zdla 26 (fun w hS => (xlb 0 pl_22 hS)) ?_
    refine zdv 27 (fun _ => xmv) ?_
    refine zdv 28 (fun _ => (xsub (r := i - 1))) ?_
    refine zdv 29 (fun _ => (xix (kk := i - 1) sl_22 h.L.slh)) ?_
    refine zdla 30 (fun w hS => (xlr (u := .int .i64 (p.L (i - 1))) pl_3 (h.L.below hS.below))) ?_
    have hbv := h.iL (i - 1)
    refine zdv 31 (fun _ => xgeq) ?_
    refine zdv 32 (fun _ => xpt) ?_
    refine zdv 33 (fun _ => xpf) ?_
    refine zdv 34 (fun _ => xmv) ?_
    refine zdb 80 ?_ ?_ <;> intro hc
    ·
     refine zdof 35 ?_
     refine zdof 36 ?_
     refine zdof 37 ?_
     refine zdof 38 ?_
     refine zdof 39 ?_
     refine zdof 40 ?_
     refine zdv 41 (fun _ => xpt) ?_
     refine zdv 42 (fun _ => xmv) ?_
     refine zdof 43 ?_
     refine zdof 44 ?_
     refine zdof 45 ?_
     refine zdof 46 ?_
     refine zdof 47 ?_
     refine zdof 48 ?_
     refine zdv 49 (fun _ => xpt) ?_
     refine zdd <| ztn <| zct <| zsr ?_
     refine zlv xas ?_
     refine zlt <| zrt <| zbr <| ztr <| ztr <| zbr <| ztr <| zf1 ⟨_, rfl, ?_⟩
     first
     | exact ⟨false_B (by intro hk; have h1 := hk.m1; have h2 := hk.m2; have h3 := hk.d; have h4 := hk.s1; have h5 := hk.s2; have h6 := hk.k1; have h7 := hk.k2; omega), hS.nl⟩
     | exact ⟨false_B (by intro hk; have := hk.all i (by omega) (by omega); unfold Prob.each at this; omega), hS.nl⟩
    refine zdv 35 (fun _ => (xfb 1 fd_24_1)) ?_
    refine zdla 36 (fun w hS => (xlb 0 pl_22 hS)) ?_
    refine zdv 37 (fun _ => xmv) ?_
    refine zdv 38 (fun _ => (xix (kk := i) sl_22 h.D.slh)) ?_
    refine zdla 39 (fun w hS => (xlr (u := .int .i64 (p.D i)) pl_3 (h.D.below hS.below))) ?_
    have hbv := h.iD i
    refine zdv 40 (fun _ => xlss) ?_
    refine zdv 41 (fun _ => xpf) ?_
    refine zdv 42 (fun _ => xmv) ?_
    refine zdb 88 ?_ ?_ <;> intro hc
    ·
     refine zdof 43 ?_
     refine zdof 44 ?_
     refine zdof 45 ?_
     refine zdof 46 ?_
     refine zdof 47 ?_
     refine zdof 48 ?_
     refine zdv 49 (fun _ => xpt) ?_
     refine zdd <| ztn <| zct <| zsr ?_
     refine zlv xas ?_
     refine zlt <| zrt <| zbr <| ztr <| ztr <| zbr <| ztr <| zf1 ⟨_, rfl, ?_⟩
     first
     | exact ⟨false_B (by intro hk; have h1 := hk.m1; have h2 := hk.m2; have h3 := hk.d; have h4 := hk.s1; have h5 := hk.s2; have h6 := hk.k1; have h7 := hk.k2; omega), hS.nl⟩
     | exact ⟨false_B (by intro hk; have := hk.all i (by omega) (by omega); unfold Prob.each at this; omega), hS.nl⟩
    refine zdv 43 (fun _ => (xfb 1 fd_24_1)) ?_
    refine zdla 44 (fun w hS => (xlb 0 pl_22 hS)) ?_
    refine zdv 45 (fun _ => xmv) ?_
    refine zdv 46 (fun _ => (xix (kk := i) sl_22 h.D.slh)) ?_
    refine zdla 47 (fun w hS => (xlr (u := .int .i64 (p.D i)) pl_3 (h.D.below hS.below))) ?_
    have hbv := h.iD i
    refine zdv 48 (fun _ => xgtr) ?_
    refine zdv 49 (fun _ => xpf) ?_
    refine zdd <| ztn ?_
    refine zcif ?_ ?_ <;> intro hc
    ·
     refine zsr ?_
     refine zlv xas ?_
     refine zlt <| zrt <| zbr <| ztr <| ztr <| zbr <| ztr <| zf1 ⟨_, rfl, ?_⟩
     first
     | exact ⟨false_B (by intro hk; have h1 := hk.m1; have h2 := hk.m2; have h3 := hk.d; have h4 := hk.s1; have h5 := hk.s2; have h6 := hk.k1; have h7 := hk.k2; omega), hS.nl⟩
     | exact ⟨false_B (by intro hk; have := hk.all i (by omega) (by omega); unfold Prob.each at this; omega), hS.nl⟩
    refine zsk <| zbn <| ztn <| zrg ?_
    refine zlv xmv ?_
    refine zlv (xadd (r := i + 1)) ?_
    refine zlv xas ?_
    refine zln <| zlq ⟨i + 1, rfl, (by omega), (by omega), ?_, rfl, hS⟩
    ·
     intro k h0' h1'; rcases Int.lt_or_eq_of_le (show k ≤ i by omega) with hk | hk; exact hall k h0' hk; rw [hk]; unfold Prob.each; omega
   refine zdof 20 ?_
   refine zdof 21 ?_
   refine zdof 22 ?_
   refine zdof 23 ?_
   refine zdof 24 ?_
   refine zdof 25 ?_
   refine zdof 26 ?_
   refine zdof 27 ?_
   refine zdof 28 ?_
   refine zdof 29 ?_
   refine zdof 30 ?_
   refine zdof 31 ?_
   refine zdv 32 (fun _ => xpf) ?_
   refine zdv 33 (fun _ => xpf) ?_
   refine zdv 34 (fun _ => xmv) ?_
   refine zdv 35 (fun _ => (xfb 1 fd_24_1)) ?_
   refine zdla 36 (fun w hS => (xlb 0 pl_22 hS)) ?_
   refine zdv 37 (fun _ => xmv) ?_
   refine zdv 38 (fun _ => (xix (kk := i) sl_22 h.D.slh)) ?_
   refine zdla 39 (fun w hS => (xlr (u := .int .i64 (p.D i)) pl_3 (h.D.below hS.below))) ?_
   have hbv := h.iD i
   refine zdv 40 (fun _ => xlss) ?_
   refine zdv 41 (fun _ => xpf) ?_
   refine zdv 42 (fun _ => xmv) ?_
   refine zdb 88 ?_ ?_ <;> intro hc
   ·
    refine zdof 43 ?_
    refine zdof 44 ?_
    refine zdof 45 ?_
    refine zdof 46 ?_
    refine zdof 47 ?_
    refine zdof 48 ?_
    refine zdv 49 (fun _ => xpt) ?_
    refine zdd <| ztn <| zct <| zsr ?_
    refine zlv xas ?_
    refine zlt <| zrt <| zbr <| ztr <| ztr <| zbr <| ztr <| zf1 ⟨_, rfl, ?_⟩
    first
    | exact ⟨false_B (by intro hk; have h1 := hk.m1; have h2 := hk.m2; have h3 := hk.d; have h4 := hk.s1; have h5 := hk.s2; have h6 := hk.k1; have h7 := hk.k2; omega), hS.nl⟩
    | exact ⟨false_B (by intro hk; have := hk.all i (by omega) (by omega); unfold Prob.each at this; omega), hS.nl⟩
   refine zdv 43 (fun _ => (xfb 1 fd_24_1)) ?_
   refine zdla 44 (fun w hS => (xlb 0 pl_22 hS)) ?_
   refine zdv 45 (fun _ => xmv) ?_
   refine zdv 46 (fun _ => (xix (kk := i) sl_22 h.D.slh)) ?_
   refine zdla 47 (fun w hS => (xlr (u := .int .i64 (p.D i)) pl_3 (h.D.below hS.below))) ?_
   have hbv := h.iD i
   refine zdv 48 (fun _ => xgtr) ?_
   refine zdv 49 (fun _ => xpf) ?_
   refine zdd <| ztn ?_
   refine zcif ?_ ?_ <;> intro hc
   ·
    refine zsr ?_
    refine zlv xas ?_
    refine zlt <| zrt <| zbr <| ztr <| ztr <| zbr <| ztr <| zf1 ⟨_, rfl, ?_⟩
    first
    | exact ⟨false_B (by intro hk; have h1 := hk.m1; have h2 := hk.m2; have h3 := hk.d; have h4 := hk.s1; have h5 := hk.s2; have h6 := hk.k1; have h7 := hk.k2; omega), hS.nl⟩
    | exact ⟨false_B (by intro hk; have := hk.all i (by omega) (by omega); unfold Prob.each at this; omega), hS.nl⟩
   refine zsk <| zbn <| ztn <| zrg ?_
   refine zlv xmv ?_
   refine zlv (xadd (r := i + 1)) ?_
   refine zlv xas ?_
   refine zln <| zlq ⟨i + 1, rfl, (by omega), (by omega), ?_, rfl, hS⟩
   ·
    intro k h0' h1'; rcases Int.lt_or_eq_of_le (show k ≤ i by omega) with hk | hk; exact hall k h0' hk; rw [hk]; unfold Prob.each; omega
  refine zxt <| ztx <| ztx <| zbh <| ztn <| zsr ?_
  refine zlv xas ?_
  refine zlt <| zrt <| zf1 ⟨_, rfl, ?_⟩
  exact ⟨true_B ⟨by omega, by omega, by omega, by omega, by omega, by omega, by omega, fun k h0 h1 => hall k h0 (by omega)⟩, hS.nl⟩
set_option maxRecDepth 20000 in
theorem c_few28 {vL vD : Value} {p : Prob} (w0 : World) (h : PAt w0 vL vD p) :
    Calls Try.prog 8 [.agg #[vL, vD, .int .i64 p.stock, .int .i64 p.kerf]].toArray w0 fun e w => ∃ v, e = .returned v ∧ v = B (Few28 p) ∧ Sat w0 w [] := by
  have hm := h.L.slh.n0; have hm1 := h.L.slh.n1; have hd := h.D.slh.n0; have hd1 := h.D.slh.n1; have hs := h.is; have hk := h.ik
  refine zenG Try.func8 Try.ntmps8 fun w hS => ?_
  refine zsr ?_
  refine zla (xbx (cs := [_, _, _, _]) hS) ?_; rintro _ w ⟨g1, rfl, hS⟩
  replace hS := hS.n1
  refine zlv xas ?_
  refine zlt <| zsq <| zsr ?_
  refine zlv (xfb 0 fd_24_0) ?_
  refine zlv (xlb 0 pl_22 hS) ?_
  refine zlv (xln sl_22 h.L.slh) ?_
  refine zs2 ?_
  refine zlb 8 ?_ ?_ <;> intro hc
  ·
   iterate 4 refine zlo ?_
   refine zlv xpt ?_
   refine zlt <| zct <| zsr ?_
   refine zlv xas ?_
   refine zlt <| zrt <| ztr <| zf1 ⟨_, rfl, ?_⟩
   exact ⟨false_B (by rintro ⟨h2, h3, h4⟩; first | omega | (have h5 := (h4 (Classical.not_not.1 ‹¬ ¬ (p.Ok)›)).1 i (by omega) (by omega); omega) | (have h5 := (h4 (Classical.not_not.1 ‹¬ ¬ (p.Ok)›)).2; omega)), hS.nl⟩
  refine zlv (xfb 1 fd_24_1) ?_
  refine zlv (xlb 0 pl_22 hS) ?_
  refine zlv (xln sl_22 h.D.slh) ?_
  refine zs2 ?_
  refine zlt ?_
  refine zcif ?_ ?_ <;> intro hc
  ·
   refine zsr ?_
   refine zlv xas ?_
   refine zlt <| zrt <| ztr <| zf1 ⟨_, rfl, ?_⟩
   exact ⟨false_B (by rintro ⟨h2, h3, h4⟩; first | omega | (have h5 := (h4 (Classical.not_not.1 ‹¬ ¬ (p.Ok)›)).1 i (by omega) (by omega); omega) | (have h5 := (h4 (Classical.not_not.1 ‹¬ ¬ (p.Ok)›)).2; omega)), hS.nl⟩
  refine zsk <| ztn <| zsq <| zsr ?_
  refine zlv (xls 0 st_24 hS) ?_
  refine zlc (xc0 cl_10) (c_rvalid28 (p := p) w (h.below hS.below)) ?_; rintro _ w ⟨rfl, hS'⟩
  replace hS := hS.cmp hS'; clear hS'
  refine zlv xnot ?_
  refine zlt ?_
  refine zcif ?_ ?_ <;> intro hc
  ·
   refine zsr ?_
   refine zlv xas ?_
   refine zlt <| zrt <| ztr <| zf1 ⟨_, rfl, ?_⟩
   exact ⟨true_B (by first | exact ⟨by omega, by omega, fun hk => absurd hk ‹¬ p.Ok›⟩), hS.nl⟩
  refine zsk <| ztn <| zsq <| zsr ?_
  refine zlv xas ?_
  refine zlt <| zbk <| zlp (fun mm M w => ∃ (i : Int), mm = ((p.d - i).toNat) ∧ (0 ≤ i) ∧ (i ≤ p.d) ∧ (∀ k, 0 ≤ k → k < i → p.D k ≤ 30) ∧ M = [(1, .pointer (some ⟨g1, 0, none⟩)), (3, .int .i64 i)] ∧ Sat w0 w [.blk g1 [vL, vD, .int .i64 p.stock, .int .i64 p.kerf]]) ⟨0, rfl, (by omega), (by omega), ?_, rfl, hS⟩ ?_
  ·
   intro k h0 h1; omega
  clear hS w
  rintro mm M w ⟨i, rfl, h0, h1, hall, rfl, hS⟩
  refine zsq <| zsr ?_
  refine zlv xmv ?_
  refine zlv (xfb 1 fd_24_1) ?_
  refine zlv (xlb 0 pl_22 hS) ?_
  refine zlv (xln sl_22 h.D.slh) ?_
  refine zlv xlss ?_
  refine zlt ?_
  refine zcif ?_ ?_ <;> intro hc
  ·
   refine zsk <| ztn <| zsq <| zbk <| zsr ?_
   refine zlv (xfb 1 fd_24_1) ?_
   refine zlv (xlb 0 pl_22 hS) ?_
   refine zlv xmv ?_
   refine zlv (xix (kk := i) sl_22 h.D.slh) ?_
   refine zlv (xlr (u := .int .i64 (p.D i)) pl_3 (h.D.below hS.below)) ?_
   have hbv := h.iD i
   refine zlv xgtr ?_
   refine zlt ?_
   refine zcif ?_ ?_ <;> intro hc
   ·
    refine zsr ?_
    refine zlv xas ?_
    refine zlt <| zrt <| zbr <| ztr <| ztr <| zbr <| ztr <| zf1 ⟨_, rfl, ?_⟩
    exact ⟨false_B (by rintro ⟨h2, h3, h4⟩; first | omega | (have h5 := (h4 (Classical.not_not.1 ‹¬ ¬ (p.Ok)›)).1 i (by omega) (by omega); omega) | (have h5 := (h4 (Classical.not_not.1 ‹¬ ¬ (p.Ok)›)).2; omega)), hS.nl⟩
   refine zsk <| zbn <| ztn <| zrg ?_
   refine zlv xmv ?_
   refine zlv (xadd (r := i + 1)) ?_
   refine zlv xas ?_
   refine zln <| zlq ⟨i + 1, rfl, (by omega), (by omega), ?_, rfl, hS⟩
   ·
    intro k h0' h1'; rcases Int.lt_or_eq_of_le (show k ≤ i by omega) with hk | hk; exact hall k h0' hk; rw [hk]; omega
  refine zxt <| ztx <| ztx <| zbh <| ztn <| zsq ?_
  refine zdst [0] [0] 1000 mx_ hS ?_; clear hS; intro w hS
  refine zdv 0 (fun _ => (xfb 0 fd_24_0)) ?_
  have hp := (Classical.not_not.1 ‹¬ ¬ (p.Ok)›); have hm2 := hp.m1; have hL := (hp.all (p.m - 1) (by omega) (by omega)); unfold Prob.each at hL; have hs2 := hp.s2
  refine zdla 1 (fun w hS => (xlb 0 pl_22 hS)) ?_
  refine zdv 2 (fun _ => (xln sl_22 h.L.slh)) ?_
  refine zdv 3 (fun _ => xleq) ?_
  refine zdv 4 (fun _ => xmv) ?_
  refine zdb 34 ?_ ?_ <;> intro hc
  ·
   refine zdv 5 (fun _ => (xfb 2 fd_24_2)) ?_
   refine zdla 6 (fun w hS => (xlb 0 pl_3 hS)) ?_
   refine zdv 7 (fun _ => (xfb 0 fd_24_0)) ?_
   refine zdla 8 (fun w hS => (xlb 0 pl_22 hS)) ?_
   refine zdv 9 (fun _ => (xfb 0 fd_24_0)) ?_
   refine zdla 10 (fun w hS => (xlb 0 pl_22 hS)) ?_
   refine zdv 11 (fun _ => (xln sl_22 h.L.slh)) ?_
   refine zdv 12 (fun _ => (xsub (r := p.m - 1))) ?_
   refine zdv 13 (fun _ => (xix (kk := p.m - 1) sl_22 h.L.slh)) ?_
   refine zdla 14 (fun w hS => (xlr (u := .int .i64 (p.L (p.m - 1))) pl_3 (h.L.below hS.below))) ?_
   have hbv := h.iL (p.m - 1)
   refine zdv 15 (fun _ => (xmul (r := 12 * p.L (p.m - 1)))) ?_
   refine zdv 16 (fun _ => xleq) ?_
   refine zdv 17 (fun _ => xpt) ?_
   refine zdv 18 (fun _ => xas) ?_
   refine zdd <| ztn <| zrt <| zf1 ⟨_, rfl, ?_⟩
   exact ⟨B_congr (by constructor; exact fun h5 => ⟨by omega, by omega, fun _ => ⟨fun k h6 h7 => hall k h6 (by omega), by omega, by omega⟩⟩; rintro ⟨h2, h3, h4⟩; have h5 := (h4 (Classical.not_not.1 ‹¬ ¬ (p.Ok)›)).2.2; omega), hS.nl⟩
  refine zdof 5 ?_
  refine zdof 6 ?_
  refine zdof 7 ?_
  refine zdof 8 ?_
  refine zdof 9 ?_
  refine zdof 10 ?_
  refine zdof 11 ?_
  refine zdof 12 ?_
  refine zdof 13 ?_
  refine zdof 14 ?_
  refine zdof 15 ?_
  refine zdof 16 ?_
  refine zdv 17 (fun _ => xpf) ?_
  refine zdv 18 (fun _ => xas) ?_
  refine zdd <| ztn <| zrt <| zf1 ⟨_, rfl, ?_⟩
  exact ⟨false_B (by rintro ⟨h2, h3, h4⟩; first | omega | (have h5 := (h4 (Classical.not_not.1 ‹¬ ¬ (p.Ok)›)).1 i (by omega) (by omega); omega) | (have h5 := (h4 (Classical.not_not.1 ‹¬ ¬ (p.Ok)›)).2; omega)), hS.nl⟩
set_option maxRecDepth 20000 in
theorem c_used {vL vD : Value} {p : Prob} {vA : Value} {n : Int} {f : Int → Int} (w0 : World) (h : PAt w0 vL vD p) (hp : p.Ok) (hA : Row w0 vA 1 n (ints f)) (hn : n = p.m) (ha : ∀ i, 0 ≤ i → i < p.m → 0 ≤ f i ∧ f i ≤ 2000) :
    Calls Try.prog 46 [.agg #[vL, vD, .int .i64 p.stock, .int .i64 p.kerf], vA].toArray w0 fun e w => ∃ v, e = .returned v ∧ v = .int .i64 (Used p f p.m.toNat) ∧ Sat w0 w [] := by
  subst hn; have hm := hp.m1; have hm2 := hp.m2
  refine zenG Try.func46 Try.ntmps46 fun w hS => ?_
  refine zsr ?_
  refine zla (xbx (cs := [_, _, _, _]) hS) ?_; rintro _ w ⟨g1, rfl, hS⟩
  replace hS := hS.n1
  refine zlv xas ?_
  refine zlz ?_
  refine zlv xas ?_
  refine zlt <| zsq <| zsr ?_
  refine zlv xas ?_
  refine zlt <| zbk <| zlp (fun mm M w => ∃ (s : Int) (i : Int), mm = ((p.m - i).toNat) ∧ (0 ≤ i) ∧ (i ≤ p.m) ∧ (s = Used p f i.toNat) ∧ M = [(1, vA), (2, .pointer (some ⟨g1, 0, none⟩)), (4, .int .i64 0), (5, .int .i64 s), (6, .int .i64 i)] ∧ Sat w0 w [.blk g1 [vL, vD, .int .i64 p.stock, .int .i64 p.kerf]]) ⟨0, 0, rfl, (by omega), (by omega), ?_, rfl, hS⟩ ?_
  ·
   rfl
  clear hS w
  rintro mm M w ⟨s, i, rfl, h0, h1, hs, rfl, hS⟩
  refine zsq <| zsr ?_
  refine zlv xmv ?_
  refine zlv (xfb 0 fd_24_0) ?_
  refine zlv (xlb 0 pl_22 hS) ?_
  refine zlv (xln sl_22 h.L.slh) ?_
  refine zlv xlss ?_
  refine zlt ?_
  refine zcif ?_ ?_ <;> intro hc
  ·
   refine zsk <| ztn <| zsq <| zbk ?_
   refine zdst [0] [0] 1000 mx_ hS ?_; clear hS; intro w hS
   refine zdv 0 (fun _ => xmv) ?_
   have he := hp.all i (by omega) (by omega); unfold Prob.each at he; have hai := ha i (by omega) (by omega); have hk1 := hp.k1; have hk2 := hp.k2; have hs2 := hp.s2; have ht := used_term hp h0 (by omega : i < p.m) hai; have hb := used_bound hp ha h0 (by omega : i ≤ p.m); have hb2 := used_bound hp ha (by omega : 0 ≤ i + 1) (by omega : i + 1 ≤ p.m)
   refine zdv 1 (fun _ => xmv) ?_
   refine zdv 2 (fun _ => xmv) ?_
   refine zdv 3 (fun _ => (xix (kk := i) sl_22 hA.slh)) ?_
   refine zdla 4 (fun w hS => (xlr (u := .int .i64 (f i)) pl_3 (hA.below hS.below))) ?_
   refine zdv 5 (fun _ => (xfb 0 fd_24_0)) ?_
   refine zdla 6 (fun w hS => (xlb 0 pl_22 hS)) ?_
   refine zdv 7 (fun _ => xmv) ?_
   refine zdv 8 (fun _ => (xix (kk := i) sl_22 h.L.slh)) ?_
   refine zdla 9 (fun w hS => (xlr (u := .int .i64 (p.L i)) pl_3 (h.L.below hS.below))) ?_
   have hbv := h.iL i
   refine zdv 10 (fun _ => (xfb 3 fd_24_3)) ?_
   refine zdla 11 (fun w hS => (xlb 0 pl_3 hS)) ?_
   refine zdv 12 (fun _ => (xadd (r := p.L i + p.kerf))) ?_
   refine zdv 13 (fun _ => (xmul (r := ((f i) * (p.L i + p.kerf))) (e := rfl) (hr := (by unfold I64; omega)))) ?_
   refine zdv 14 (fun _ => (xadd (r := s + ((f i) * (p.L i + p.kerf))) (hr := (by unfold I64; omega)))) ?_
   refine zdv 15 (fun _ => xas) ?_
   refine zdd <| zbn <| ztn <| zrg ?_
   refine zlv xmv ?_
   refine zlv (xadd (r := i + 1)) ?_
   refine zlv xas ?_
   refine zln <| zlq ⟨s + ((f i) * (p.L i + p.kerf)), i + 1, rfl, (by omega), (by omega), ?_, rfl, hS⟩
   ·
    rw [hs]; exact (sumTo_next _ h0).symm
  refine zxt <| ztx <| ztx <| zbh <| ztn <| zsr ?_
  refine zs2 ?_
  refine zlt <| zrt <| zf1 ⟨_, rfl, ?_⟩
  obtain rfl : i = p.m := by omega
  exact ⟨congrArg (Value.int .i64) hs, hS.nl⟩
set_option maxRecDepth 20000 in
theorem c_fits {vL vD : Value} {p : Prob} {vA : Value} {n : Int} {f : Int → Int} (w0 : World) (h : PAt w0 vL vD p) (hA : Row w0 vA 1 n (ints f)) :
    Calls Try.prog 87 [.agg #[vL, vD, .int .i64 p.stock, .int .i64 p.kerf], vA].toArray w0 fun e w => ∃ v, e = .returned v ∧ v = B (FitsP p n f) ∧ Sat w0 w [] := by
  have hm := h.L.slh.n0; have hm1 := h.L.slh.n1; have hd := h.D.slh.n0; have hs := h.is; have hk := h.ik; have hn := hA.slh.n0; have hn1 := hA.slh.n1
  refine zenG Try.func87 Try.ntmps87 fun w hS => ?_
  refine zsr ?_
  refine zla (xbx (cs := [_, _, _, _]) hS) ?_; rintro _ w ⟨g1, rfl, hS⟩
  replace hS := hS.n1
  refine zlv xas ?_
  refine zlt <| zsq <| zsr ?_
  refine zlv (xls 0 st_24 hS) ?_
  refine zlc (xc0 cl_10) (c_rvalid28 (p := p) w (h.below hS.below)) ?_; rintro _ w ⟨rfl, hS'⟩
  replace hS := hS.cmp hS'; clear hS'
  refine zs2 ?_
  refine zlb 9 ?_ ?_ <;> intro hc
  ·
   iterate 6 refine zlo ?_
   refine zlv xpt ?_
   refine zlt <| zct <| zsr ?_
   refine zlv xas ?_
   refine zlt <| zrt <| ztr <| zf1 ⟨_, rfl, ?_⟩
   first
   | exact ⟨false_B (by intro hk; exact absurd hk.ok ‹¬ p.Ok›), hS.nl⟩
   | exact ⟨false_B (by intro hk; have := hk.eq; omega), hS.nl⟩
   | exact ⟨false_B (by intro hk; have := hk.all i (by omega) (by have := hk.eq; omega); omega), hS.nl⟩
  refine zlv xmv ?_
  refine zlv (xln sl_22 hA.slh) ?_
  refine zlv (xfb 0 fd_24_0) ?_
  refine zlv (xlb 0 pl_22 hS) ?_
  refine zlv (xln sl_22 h.L.slh) ?_
  refine zs2 ?_
  refine zlt ?_
  refine zcif ?_ ?_ <;> intro hc
  ·
   refine zsr ?_
   refine zlv xas ?_
   refine zlt <| zrt <| ztr <| zf1 ⟨_, rfl, ?_⟩
   first
   | exact ⟨false_B (by intro hk; exact absurd hk.ok ‹¬ p.Ok›), hS.nl⟩
   | exact ⟨false_B (by intro hk; have := hk.eq; omega), hS.nl⟩
   | exact ⟨false_B (by intro hk; have := hk.all i (by omega) (by have := hk.eq; omega); omega), hS.nl⟩
  refine zsk <| ztn <| zsq <| zsr ?_
  refine zlv xas ?_
  refine zlt <| zbk <| zlp (fun mm M w => ∃ (i : Int), mm = ((n - i).toNat) ∧ (0 ≤ i) ∧ (i ≤ n) ∧ (∀ k, 0 ≤ k → k < i → 0 ≤ f k ∧ f k ≤ 2000) ∧ M = [(1, vA), (2, .pointer (some ⟨g1, 0, none⟩)), (5, .int .i64 i)] ∧ Sat w0 w [.blk g1 [vL, vD, .int .i64 p.stock, .int .i64 p.kerf]]) ⟨0, rfl, (by omega), (by omega), ?_, rfl, hS⟩ ?_
  ·
   intro k h0 h1; omega
  clear hS w
  rintro mm M w ⟨i, rfl, h0, h1, hall, rfl, hS⟩
  refine zsq <| zsr ?_
  refine zs2 ?_
  refine zlv (xln sl_22 hA.slh) ?_
  refine zlv xlss ?_
  refine zlt ?_
  refine zcif ?_ ?_ <;> intro hc
  ·
   refine zsk <| ztn <| zsq <| zbk <| zsr ?_
   refine zs2 ?_
   refine zlv (xix (kk := i) sl_22 hA.slh) ?_
   refine zlv (xlr (u := .int .i64 (f i)) pl_3 (hA.below hS.below)) ?_
   refine zs2 ?_
   refine zlb 28 ?_ ?_ <;> intro hc
   ·
    iterate 5 refine zlo ?_
    refine zlv xpt ?_
    refine zlt <| zct <| zsr ?_
    refine zlv xas ?_
    refine zlt <| zrt <| zbr <| ztr <| ztr <| zbr <| ztr <| zf1 ⟨_, rfl, ?_⟩
    first
    | exact ⟨false_B (by intro hk; exact absurd hk.ok ‹¬ p.Ok›), hS.nl⟩
    | exact ⟨false_B (by intro hk; have := hk.eq; omega), hS.nl⟩
    | exact ⟨false_B (by intro hk; have := hk.all i (by omega) (by have := hk.eq; omega); omega), hS.nl⟩
   refine zs2 ?_
   refine zlv (xix (kk := i) sl_22 hA.slh) ?_
   refine zlv (xlr (u := .int .i64 (f i)) pl_3 (hA.below hS.below)) ?_
   refine zs2 ?_
   refine zlt ?_
   refine zcif ?_ ?_ <;> intro hc
   ·
    refine zsr ?_
    refine zlv xas ?_
    refine zlt <| zrt <| zbr <| ztr <| ztr <| zbr <| ztr <| zf1 ⟨_, rfl, ?_⟩
    first
    | exact ⟨false_B (by intro hk; exact absurd hk.ok ‹¬ p.Ok›), hS.nl⟩
    | exact ⟨false_B (by intro hk; have := hk.eq; omega), hS.nl⟩
    | exact ⟨false_B (by intro hk; have := hk.all i (by omega) (by have := hk.eq; omega); omega), hS.nl⟩
   refine zsk <| zbn <| ztn <| zrg ?_
   refine zlv xmv ?_
   refine zlv (xadd (r := i + 1)) ?_
   refine zlv xas ?_
   refine zln <| zlq ⟨i + 1, rfl, (by omega), (by omega), ?_, rfl, hS⟩
   ·
    intro k h0' h1'; rcases Int.lt_or_eq_of_le (show k ≤ i by omega) with hk | hk; exact hall k h0' hk; rw [hk]; omega
  refine zxt <| ztx <| ztx <| zbh <| ztn <| zsq ?_
  refine zdst [0] [0] 1000 mx_ hS ?_; clear hS; intro w hS
  refine zdla 0 (fun w hS => (xls 0 st_24 hS)) ?_
  have hp := (Classical.not_not.1 ‹¬ ¬ (p.Ok)›); have hs1 := hp.s1; have hs2 := hp.s2; have hk1 := hp.k1; have hk2 := hp.k2
  refine zdv 1 (fun _ => xmv) ?_
  refine zdv 3 (fun _ => (xfb 2 fd_24_2)) ?_
  refine zdla 4 (fun w hS => (xlb 0 pl_3 hS)) ?_
  refine zdv 5 (fun _ => (xfb 3 fd_24_3)) ?_
  refine zdla 6 (fun w hS => (xlb 0 pl_3 hS)) ?_
  refine zdv 7 (fun _ => (xadd (r := p.stock + p.kerf))) ?_
  refine zdc 2 (xc0 cl_46) (c_used (p := p) w (h.below hS.below) (Classical.not_not.1 ‹¬ ¬ (p.Ok)›) (hA.below hS.below) (by omega) (fun k k0 k1 => hall k k0 (by omega))) ?_; rintro _ w ⟨rfl, hS'⟩
  replace hS := hS.cmp hS'; clear hS'
  refine ⟨⟨fun _ => hS, hS⟩, ?_⟩
  refine zdv 8 (fun _ => xleq) ?_
  refine zdv 9 (fun _ => xas) ?_
  refine zdd <| ztn <| zrt <| zf1 ⟨_, rfl, ?_⟩
  exact ⟨B_congr ⟨fun hu => ⟨(Classical.not_not.1 ‹¬ ¬ (p.Ok)›), by omega, fun k k0 k1 => hall k k0 (by omega), hu⟩, fun hk => hk.used⟩, hS.nl⟩
def ProperP (p : Prob) (n : Int) (f : Int → Int) : Prop := FitsP p n f ∧ ∀ k, 0 ≤ k → k < n → f k ≤ p.D k
theorem fits_step {p : Prob} {n : Int} {f : Int → Int} (hf : FitsP p n f) {i : Int} (i0 : 0 ≤ i) (i1 : i < n) : 0 ≤ f i ∧ f i ≤ (p.stock + p.kerf - Used p f i.toNat).tdiv (p.L i + p.kerf) := by
  have hp := hf.ok
  have hn := hf.eq
  have he := hp.all i i0 (by omega)
  unfold Prob.each at he
  have hk := hp.k1
  have hu : ∀ j : Nat, i.toNat + j ≤ n.toNat → Used p f i.toNat ≤ Used p f (i.toNat + j) := fun j => by
    induction j with
    | zero => intro _; exact Int.le_refl _
    | succ j ih =>
      intro hj
      have h1 := ih (by omega)
      have h2 := hf.all ((i.toNat + j : Nat) : Int) (by omega) (by omega)
      have h3 := hp.all ((i.toNat + j : Nat) : Int) (by omega) (by omega)
      unfold Prob.each at h3
      have h4 := Int.mul_nonneg h2.1 (show 0 ≤ p.L ((i.toNat + j : Nat) : Int) + p.kerf by omega)
      have h5 := sumTo_next (fun i => f i * (p.L i + p.kerf)) (i := ((i.toNat + j : Nat) : Int)) (by omega)
      have e : Used p f (i.toNat + (j + 1)) = Used p f (i.toNat + j) + f ((i.toNat + j : Nat) : Int) * (p.L ((i.toNat + j : Nat) : Int) + p.kerf) := by
        unfold Used
        rw [show i.toNat + (j + 1) = (((i.toNat + j : Nat) : Int) + 1).toNat by omega, h5]; rfl
      rw [e]; omega
  have h1 : Used p f (i + 1).toNat = Used p f i.toNat + f i * (p.L i + p.kerf) := sumTo_next _ i0
  have h2 : Used p f (i + 1).toNat ≤ Used p f n.toNat := by
    have h3 : ∀ j : Nat, (i + 1).toNat + j ≤ n.toNat → Used p f (i + 1).toNat ≤ Used p f ((i + 1).toNat + j) := fun j => by
      induction j with
      | zero => intro _; exact Int.le_refl _
      | succ j ih =>
        intro hj
        have h1 := ih (by omega)
        have h2 := hf.all (((i + 1).toNat + j : Nat) : Int) (by omega) (by omega)
        have h3 := hp.all (((i + 1).toNat + j : Nat) : Int) (by omega) (by omega)
        unfold Prob.each at h3
        have h4 := Int.mul_nonneg h2.1 (show 0 ≤ p.L (((i + 1).toNat + j : Nat) : Int) + p.kerf by omega)
        have h5 := sumTo_next (fun i => f i * (p.L i + p.kerf)) (i := (((i + 1).toNat + j : Nat) : Int)) (by omega)
        have e : Used p f ((i + 1).toNat + (j + 1)) = Used p f ((i + 1).toNat + j) + f (((i + 1).toNat + j : Nat) : Int) * (p.L (((i + 1).toNat + j : Nat) : Int) + p.kerf) := by
          unfold Used
          rw [show (i + 1).toNat + (j + 1) = ((((i + 1).toNat + j : Nat) : Int) + 1).toNat by omega, h5]; rfl
        rw [e]; omega
    have h4 := h3 (n.toNat - (i + 1).toNat) (by omega)
    rwa [show (i + 1).toNat + (n.toNat - (i + 1).toNat) = n.toNat by omega] at h4
  have h3 := hf.used
  rw [← hn] at h3
  have h0 := (hf.all i i0 (by omega)).1
  have h4 := Int.mul_nonneg h0 (show 0 ≤ p.L i + p.kerf by omega)
  refine ⟨h0, ?_⟩
  rw [Int.tdiv_eq_ediv_of_nonneg (by omega)]
  exact (Int.le_ediv_iff_mul_le (by omega)).2 (by omega)
theorem free_step {p : Prob} (hp : p.Ok) {i l x : Int} (i0 : 0 ≤ i) (i1 : i < p.m) (l0 : 0 ≤ l) (l1 : l ≤ p.stock + p.kerf) (x0 : 0 ≤ x) (x1 : x ≤ l.tdiv (p.L i + p.kerf)) : 0 ≤ x * (p.L i + p.kerf) ∧ x * (p.L i + p.kerf) ≤ l ∧ x ≤ 2000 := by
  have he := hp.all i i0 i1
  unfold Prob.each at he
  have hk := hp.k1; have hs := hp.s2
  rw [Int.tdiv_eq_ediv_of_nonneg l0] at x1
  have h1 := (Int.le_ediv_iff_mul_le (show 0 < p.L i + p.kerf by omega)).1 x1
  have h2 := Int.mul_nonneg x0 (show 0 ≤ p.L i + p.kerf by omega)
  refine ⟨h2, h1, ?_⟩
  by_cases hx : x ≤ 2000
  · exact hx
  · exfalso
    have h3 := Int.mul_le_mul_of_nonneg_left (show 1 + p.kerf ≤ p.L i + p.kerf by omega) x0
    have h4 := Int.mul_le_mul_of_nonneg_right (show 1 ≤ x by omega) hk
    have h5 : x * (1 + p.kerf) = x + x * p.kerf := by rw [Int.mul_add, Int.mul_one]
    omega
theorem c_size {vL vD : Value} {p : Prob} {i : Int} (w0 : World) (h : PAt w0 vL vD p) (hok : p.Ok) (i0 : 0 ≤ i) (i1 : i < p.m) :
    Calls Try.prog 110 [.agg #[vL, vD, .int .i64 p.stock, .int .i64 p.kerf], .int .i64 i].toArray w0 fun e w => ∃ v, e = .returned v ∧ v = .int .i64 (p.L i + p.kerf) ∧ Sat w0 w [] := by
  have hp := hok; have he := hp.all i i0 i1; unfold Prob.each at he; have hs2 := hp.s2; have hk1 := hp.k1; have hk2 := hp.k2
  refine zenG Try.func110 Try.ntmps110 fun w hS => ?_
  refine zsr ?_
  refine zla (xbx (cs := [_, _, _, _]) hS) ?_; rintro _ w ⟨g1, rfl, hS⟩
  replace hS := hS.n1
  refine zlv xas ?_
  refine zlt <| zsq ?_
  refine zdst [0] [0] 1000 mx_ hS ?_; clear hS; intro w hS
  refine zdv 0 (fun _ => (xfb 0 fd_39_0)) ?_
  refine zdla 1 (fun w hS => (xlb 0 pl_22 hS)) ?_
  refine zdv 2 (fun _ => xmv) ?_
  refine zdv 3 (fun _ => (xix (kk := i) sl_22 h.L.slh)) ?_
  refine zdla 4 (fun w hS => (xlr (u := .int .i64 (p.L i)) pl_3 (h.L.below hS.below))) ?_
  have hbv := h.iL i
  refine zdv 5 (fun _ => (xfb 3 fd_39_3)) ?_
  refine zdla 6 (fun w hS => (xlb 0 pl_3 hS)) ?_
  refine zdv 7 (fun _ => (xadd (r := p.L i + p.kerf))) ?_
  refine zdv 8 (fun _ => xas) ?_
  refine zdd <| ztn <| zrt <| zf1 ⟨_, rfl, ?_⟩
  exact ⟨rfl, hS.nl⟩
set_option maxRecDepth 20000 in
theorem c_free {vL vD : Value} {p : Prob} {vA : Value} {n : Int} {f : Int → Int} (w0 : World) (h : PAt w0 vL vD p) (hA : Row w0 vA 1 n (ints f)) :
    Calls Try.prog 89 [.agg #[vL, vD, .int .i64 p.stock, .int .i64 p.kerf], vA].toArray w0 fun e w => ∃ v, e = .returned v ∧ ∃ (r : Int) (ok : Prop), v = .tuple #[.int .i64 r, B ok] ∧ (ok ↔ FitsP p n f) ∧ Sat w0 w [] := by
  have hm := h.L.slh.n0; have hm1 := h.L.slh.n1; have hd := h.D.slh.n0; have hd1 := h.D.slh.n1; have hs := h.is; have hk := h.ik
  have hn := hA.slh.n0; have hn1 := hA.slh.n1
  refine zenG Try.func89 Try.ntmps89 fun w hS => ?_
  refine zsr ?_
  refine zla (xbx (cs := [_, _, _, _]) hS) ?_; rintro _ w ⟨g1, rfl, hS⟩
  replace hS := hS.n1
  refine zs2 ?_
  refine zlt <| zsq <| zsr ?_
  refine zlv (xls 0 st_39 hS) ?_
  refine zlc (xc0 cl_34) (c_pvalid (p := p) w (h.below hS.below)) ?_; rintro _ w ⟨rfl, hS'⟩
  replace hS := hS.cmp hS'; clear hS'
  refine zs2 ?_
  refine zlb 12 ?_ ?_ <;> intro hc
  ·
   iterate 6 refine zlo ?_
   refine zlv xpt ?_
   refine zlt <| zct <| zsr ?_
   refine zs2 ?_
   refine zlt <| zrt <| ztr <| zf2 ⟨_, rfl, ?_⟩
   exact ⟨_, False, by rw [B_false not_false], ⟨fun hh => hh.elim, fun hf => by
     first
     | exact absurd hf.ok ‹¬ p.Ok›
     | (have := hf.eq; omega)
     | (have h8 := fits_step hf h0 (by omega); rw [← show p.stock + p.kerf - Used p f i.toNat = l by omega] at *; omega)
     | (have h8 := fits_step hf h0 (by omega); omega)⟩, hS.nl⟩
  refine zlv xmv ?_
  refine zlv (xln sl_22 hA.slh) ?_
  refine zlv (xfb 0 fd_39_0) ?_
  refine zlv (xlb 0 pl_22 hS) ?_
  refine zlv (xln sl_22 h.L.slh) ?_
  refine zs2 ?_
  refine zlt ?_
  refine zcif ?_ ?_ <;> intro hc
  ·
   refine zsr ?_
   refine zs2 ?_
   refine zlt <| zrt <| ztr <| zf2 ⟨_, rfl, ?_⟩
   exact ⟨_, False, by rw [B_false not_false], ⟨fun hh => hh.elim, fun hf => by
     first
     | exact absurd hf.ok ‹¬ p.Ok›
     | (have := hf.eq; omega)
     | (have h8 := fits_step hf h0 (by omega); rw [← show p.stock + p.kerf - Used p f i.toNat = l by omega] at *; omega)
     | (have h8 := fits_step hf h0 (by omega); omega)⟩, hS.nl⟩
  refine zsk <| ztn <| zsr ?_
  refine zlv (xfb 2 fd_39_2) ?_
  have hp : p.Ok := by first | assumption | exact Classical.not_not.1 ‹_›
  have hnm : n = p.m := by omega
  have hs1 := hp.s1; have hs2 := hp.s2; have hk1 := hp.k1; have hk2 := hp.k2
  refine zlv (xlb 0 pl_3 hS) ?_
  refine zlv (xfb 3 fd_39_3) ?_
  refine zlv (xlb 0 pl_3 hS) ?_
  refine zlv (xadd (r := p.stock + p.kerf)) ?_
  refine zlv xas ?_
  refine zlt <| zsq <| zsr ?_
  refine zlv xmv ?_
  refine zlv (xln sl_22 hA.slh) ?_
  refine zlv xmv ?_
  refine zlt <| zbk <| zlp (fun mm M w => ∃ (l : Int) (i : Int), mm = ((n - i).toNat) ∧ (0 ≤ i) ∧ (i ≤ n) ∧ (l = p.stock + p.kerf - Used p f i.toNat) ∧ (0 ≤ l) ∧ (l ≤ p.stock + p.kerf) ∧ (∀ k, 0 ≤ k → k < i → 0 ≤ f k ∧ f k ≤ 2000) ∧ M = [(2, .pointer (some ⟨g1, 0, none⟩)), (6, .int .i64 l), (25, vA), (26, .int .i64 n), (27, .int .i64 i)] ∧ Sat w0 w [.blk g1 [vL, vD, .int .i64 p.stock, .int .i64 p.kerf]]) ⟨p.stock + p.kerf, 0, rfl, (by omega), (by omega), ?_, (by omega), (by omega), ?_, rfl, hS⟩ ?_
  ·
   show _ = _ - 0; omega
  ·
   intro k k0 k1; omega
  clear hS w
  rintro mm M w ⟨l, i, rfl, h0, h1, hl, hl0, hl1, hall, rfl, hS⟩
  refine zsr ?_
  refine zlv xlss ?_
  refine zlt <| zsq ?_
  refine zcif ?_ ?_ <;> intro hc
  ·
   refine zsk <| ztn <| zsq <| zbk <| zsr ?_
   refine zlv xmv ?_
   have he := hp.all i h0 (by omega); unfold Prob.each at he
   have hqd := tdiv_abs (a := l) (d := p.L i + p.kerf) (A := 2100) (by omega) (by omega)
   refine zlv (xix (kk := i) sl_22 hA.slh) ?_
   refine zlv (xlr (u := .int .i64 (f i)) pl_3 (hA.below hS.below)) ?_
   refine zs2 ?_
   refine zlt <| zsq <| zsr ?_
   refine zs3 ?_
   refine zlb 34 ?_ ?_ <;> intro hc
   ·
    iterate 7 refine zlo ?_
    refine zlv xpt ?_
    refine zlt <| zct <| zsr ?_
    refine zs2 ?_
    refine zlt <| zrt <| ztr <| zbr <| ztr <| ztr <| zbr <| ztr <| zf2 ⟨_, rfl, ?_⟩
    exact ⟨_, False, by rw [B_false not_false], ⟨fun hh => hh.elim, fun hf => by
      first
      | exact absurd hf.ok ‹¬ p.Ok›
      | (have := hf.eq; omega)
      | (have h8 := fits_step hf h0 (by omega); rw [← show p.stock + p.kerf - Used p f i.toNat = l by omega] at *; omega)
      | (have h8 := fits_step hf h0 (by omega); omega)⟩, hS.nl⟩
   refine zs2 ?_
   refine zlv (xls 0 st_39 hS) ?_
   refine zlv xmv ?_
   refine zlc (xc0 cl_110) (c_size (p := p) (i := i) w (h.below hS.below) hp (by omega) (by omega)) ?_; rintro _ w ⟨rfl, hS'⟩
   replace hS := hS.cmp hS'; clear hS'
   refine zlv (xquo (r := (Int.tdiv l (p.L i + p.kerf)))) ?_
   refine zs2 ?_
   refine zlt ?_
   refine zcif ?_ ?_ <;> intro hc
   ·
    refine zsr ?_
    refine zs2 ?_
    refine zlt <| zrt <| ztr <| zbr <| ztr <| ztr <| zbr <| ztr <| zf2 ⟨_, rfl, ?_⟩
    exact ⟨_, False, by rw [B_false not_false], ⟨fun hh => hh.elim, fun hf => by
      first
      | exact absurd hf.ok ‹¬ p.Ok›
      | (have := hf.eq; omega)
      | (have h8 := fits_step hf h0 (by omega); rw [← show p.stock + p.kerf - Used p f i.toNat = l by omega] at *; omega)
      | (have h8 := fits_step hf h0 (by omega); omega)⟩, hS.nl⟩
   refine zsk <| ztn <| zrg ?_
   refine zlv xmv ?_
   have hst := free_step hp h0 (by omega) hl0 hl1 (x := f i) (by omega) (by omega)
   refine zlv xmv ?_
   refine zlv (xls 0 st_39 hS) ?_
   refine zlv xmv ?_
   refine zlc (xc0 cl_110) (c_size (p := p) (i := i) w (h.below hS.below) hp (by omega) (by omega)) ?_; rintro _ w ⟨rfl, hS'⟩
   replace hS := hS.cmp hS'; clear hS'
   refine zlv (xmul (r := ((f i) * (p.L i + p.kerf))) (e := rfl)) ?_
   refine zlv (xsub (r := l - ((f i) * (p.L i + p.kerf)))) ?_
   refine zlv xas ?_
   refine zln <| zbn <| ztn <| zrg ?_
   refine zlv (xadd (r := i + 1)) ?_
   refine zlv xmv ?_
   refine zln <| zlq ⟨l - ((f i) * (p.L i + p.kerf)), i + 1, rfl, (by omega), (by omega), ?_, (by omega), (by omega), ?_, rfl, hS⟩
   ·
    have h9 : Used p f (i + 1).toNat = Used p f i.toNat + f i * (p.L i + p.kerf) := sumTo_next _ h0
    rw [h9]; omega
   ·
    intro k h0' h1'; rcases Int.lt_or_eq_of_le (show k ≤ i by omega) with hk | hk; exact hall k h0' hk; rw [hk]; omega
  refine zxt <| ztx <| ztx <| zbh <| ztn <| zsr ?_
  refine zs3 ?_
  refine zlt <| zrt <| zf2 ⟨_, rfl, ?_⟩
  exact ⟨_, True, by rw [B_true trivial], ⟨fun _ => ⟨hp, by omega, fun k k0 k1 => (hall k k0 (by omega)), by rw [← hnm, show n = i by omega]; omega⟩, fun _ => trivial⟩, hS.nl⟩
set_option maxRecDepth 20000 in
theorem c_pfits {vL vD : Value} {p : Prob} {vA : Value} {n : Int} {f : Int → Int} (w0 : World) (h : PAt w0 vL vD p) (hA : Row w0 vA 1 n (ints f)) :
    Calls Try.prog 70 [.agg #[vL, vD, .int .i64 p.stock, .int .i64 p.kerf], vA].toArray w0 fun e w => ∃ v, e = .returned v ∧ v = B (FitsP p n f) ∧ Sat w0 w [] := by
  refine zenG Try.func70 Try.ntmps70 fun w hS => ?_
  refine zsr ?_
  refine zla (xbx (cs := [_, _, _, _]) hS) ?_; rintro _ w ⟨g1, rfl, hS⟩
  replace hS := hS.n1
  refine zlv xas ?_
  refine zlz ?_
  refine zlv (xls 0 st_39 hS) ?_
  refine zlv xmv ?_
  refine zlc (xc0 cl_89) (c_free (p := p) w (h.below hS.below) (hA.below hS.below)) ?_; rintro _ w ⟨rr1, okr1, rfl, hfrr1, hS'⟩
  replace hS := hS.cmp hS'; clear hS'
  refine zs5 ?_
  refine zlz ?_
  refine zs2 ?_
  refine zlt <| zrt <| zf1 ⟨_, rfl, ?_⟩
  exact ⟨B_congr hfrr1, hS.nl⟩
set_option maxRecDepth 20000 in
theorem c_pproper {vL vD : Value} {p : Prob} {vA : Value} {n : Int} {f : Int → Int} (w0 : World) (h : PAt w0 vL vD p) (hA : Row w0 vA 1 n (ints f)) :
    Calls Try.prog 37 [.agg #[vL, vD, .int .i64 p.stock, .int .i64 p.kerf], vA].toArray w0 fun e w => ∃ v, e = .returned v ∧ v = B (ProperP p n f) ∧ Sat w0 w [] := by
  have hm := h.L.slh.n0; have hm1 := h.L.slh.n1; have hd := h.D.slh.n0; have hd1 := h.D.slh.n1; have hs := h.is; have hk := h.ik
  have hn := hA.slh.n0; have hn1 := hA.slh.n1
  refine zenG Try.func37 Try.ntmps37 fun w hS => ?_
  refine zsr ?_
  refine zla (xbx (cs := [_, _, _, _]) hS) ?_; rintro _ w ⟨g1, rfl, hS⟩
  replace hS := hS.n1
  refine zlv xas ?_
  refine zlt <| zsq <| zsr ?_
  refine zlv (xls 0 st_39 hS) ?_
  refine zlv xmv ?_
  refine zlc (xc0 cl_70) (c_pfits (p := p) w (h.below hS.below) (hA.below hS.below)) ?_; rintro _ w ⟨rfl, hS'⟩
  replace hS := hS.cmp hS'; clear hS'
  refine zlv xnot ?_
  refine zlt ?_
  refine zcif ?_ ?_ <;> intro hc
  ·
   refine zsr ?_
   refine zlv xas ?_
   refine zlt <| zrt <| ztr <| zf1 ⟨_, rfl, ?_⟩
   exact ⟨false_B (by intro hh; first | exact absurd hh.1 ‹_› | (have := hh.2 i h0 (by omega); omega)), hS.nl⟩
  refine zsk <| ztn <| zsq <| zsr ?_
  refine zlv xmv ?_
  refine zlv (xln sl_22 hA.slh) ?_
  refine zlv xmv ?_
  refine zlt <| zbk ?_
  have hfit : FitsP p n f := by first | assumption | exact Classical.not_not.1 ‹_›
  have hfe := hfit.eq; have hfd := hfit.ok.d
  refine zlp (fun mm M w => ∃ (i : Int), mm = ((n - i).toNat) ∧ (0 ≤ i) ∧ (i ≤ n) ∧ (∀ k, 0 ≤ k → k < i → f k ≤ p.D k) ∧ M = [(2, .pointer (some ⟨g1, 0, none⟩)), (11, vA), (12, .int .i64 n), (13, .int .i64 i)] ∧ Sat w0 w [.blk g1 [vL, vD, .int .i64 p.stock, .int .i64 p.kerf]]) ⟨0, rfl, (by omega), (by omega), ?_, rfl, hS⟩ ?_
  ·
   intro k k0 k1; omega
  clear hS w
  rintro mm M w ⟨i, rfl, h0, h1, hall, rfl, hS⟩
  refine zsr ?_
  refine zlv xlss ?_
  refine zlt <| zsq ?_
  refine zcif ?_ ?_ <;> intro hc
  ·
   refine zsk <| ztn <| zsq <| zbk <| zsr ?_
   refine zlv xmv ?_
   refine zlv (xix (kk := i) sl_22 hA.slh) ?_
   refine zlv (xlr (u := .int .i64 (f i)) pl_3 (hA.below hS.below)) ?_
   refine zs2 ?_
   refine zlz ?_
   refine zlv xmv ?_
   refine zlv (xfb 1 fd_39_1) ?_
   refine zlv (xlb 0 pl_22 hS) ?_
   refine zlv xmv ?_
   refine zlv (xix (kk := i) sl_22 h.D.slh) ?_
   refine zlv (xlr (u := .int .i64 (p.D i)) pl_3 (h.D.below hS.below)) ?_
   have hbv := h.iD i
   refine zlv xgtr ?_
   refine zlt ?_
   refine zcif ?_ ?_ <;> intro hc
   ·
    refine zsr ?_
    refine zlv xas ?_
    refine zlt <| zrt <| zbr <| ztr <| ztr <| zbr <| ztr <| zf1 ⟨_, rfl, ?_⟩
    exact ⟨false_B (by intro hh; first | exact absurd hh.1 ‹_› | (have := hh.2 i h0 (by omega); omega)), hS.nl⟩
   refine zsk <| zbn <| ztn <| zrg ?_
   refine zlv (xadd (r := i + 1)) ?_
   refine zlv xmv ?_
   refine zln <| zlq ⟨i + 1, rfl, (by omega), (by omega), ?_, rfl, hS⟩
   ·
    intro k h0' h1'; rcases Int.lt_or_eq_of_le (show k ≤ i by omega) with hk | hk; exact hall k h0' hk; rw [hk]; omega
  refine zxt <| ztx <| ztx <| zbh <| ztn <| zsr ?_
  refine zlv xas ?_
  refine zlt <| zrt <| zf1 ⟨_, rfl, ?_⟩
  exact ⟨true_B (by exact ⟨hfit, fun k k0 k1 => hall k k0 (by omega)⟩), hS.nl⟩
set_option maxRecDepth 20000 in
theorem c_rproper28 {vL vD : Value} {p : Prob} {vA : Value} {n : Int} {f : Int → Int} (w0 : World) (h : PAt w0 vL vD p) (hA : Row w0 vA 1 n (ints f)) :
    Calls Try.prog 63 [.agg #[vL, vD, .int .i64 p.stock, .int .i64 p.kerf], vA].toArray w0 fun e w => ∃ v, e = .returned v ∧ v = B (ProperP p n f) ∧ Sat w0 w [] := by
  have hm := h.L.slh.n0; have hm1 := h.L.slh.n1; have hd := h.D.slh.n0; have hd1 := h.D.slh.n1; have hs := h.is; have hk := h.ik
  have hn := hA.slh.n0; have hn1 := hA.slh.n1
  refine zenG Try.func63 Try.ntmps63 fun w hS => ?_
  refine zsr ?_
  refine zla (xbx (cs := [_, _, _, _]) hS) ?_; rintro _ w ⟨g1, rfl, hS⟩
  replace hS := hS.n1
  refine zlv xas ?_
  refine zlt <| zsq <| zsr ?_
  refine zlv (xls 0 st_24 hS) ?_
  refine zlv xmv ?_
  refine zlc (xc0 cl_87) (c_fits (p := p) w (h.below hS.below) (hA.below hS.below)) ?_; rintro _ w ⟨rfl, hS'⟩
  replace hS := hS.cmp hS'; clear hS'
  refine zlv xnot ?_
  refine zlt ?_
  refine zcif ?_ ?_ <;> intro hc
  ·
   refine zsr ?_
   refine zlv xas ?_
   refine zlt <| zrt <| ztr <| zf1 ⟨_, rfl, ?_⟩
   exact ⟨false_B (by intro hh; first | exact absurd hh.1 ‹_› | (have := hh.2 i h0 (by omega); omega)), hS.nl⟩
  refine zsk <| ztn <| zsq <| zsr ?_
  refine zlv xas ?_
  refine zlt <| zbk ?_
  have hfit : FitsP p n f := by first | assumption | exact Classical.not_not.1 ‹_›
  have hfe := hfit.eq; have hfd := hfit.ok.d
  refine zlp (fun mm M w => ∃ (i : Int), mm = ((n - i).toNat) ∧ (0 ≤ i) ∧ (i ≤ n) ∧ (∀ k, 0 ≤ k → k < i → f k ≤ p.D k) ∧ M = [(1, vA), (2, .pointer (some ⟨g1, 0, none⟩)), (5, .int .i64 i)] ∧ Sat w0 w [.blk g1 [vL, vD, .int .i64 p.stock, .int .i64 p.kerf]]) ⟨0, rfl, (by omega), (by omega), ?_, rfl, hS⟩ ?_
  ·
   intro k k0 k1; omega
  clear hS w
  rintro mm M w ⟨i, rfl, h0, h1, hall, rfl, hS⟩
  refine zsq <| zsr ?_
  refine zs2 ?_
  refine zlv (xln sl_22 hA.slh) ?_
  refine zlv xlss ?_
  refine zlt ?_
  refine zcif ?_ ?_ <;> intro hc
  ·
   refine zsk <| ztn <| zsq <| zbk <| zsq ?_
   refine zdst [0] [0] 1000 mx_ hS ?_; clear hS; intro w hS
   refine zdv 0 (fun _ => xmv) ?_
   refine zdv 1 (fun _ => xmv) ?_
   refine zdv 2 (fun _ => (xix (kk := i) sl_22 hA.slh)) ?_
   refine zdla 3 (fun w hS => (xlr (u := .int .i64 (f i)) pl_3 (hA.below hS.below))) ?_
   refine zdv 4 (fun _ => (xfb 1 fd_24_1)) ?_
   refine zdla 5 (fun w hS => (xlb 0 pl_22 hS)) ?_
   refine zdv 6 (fun _ => xmv) ?_
   refine zdv 7 (fun _ => (xix (kk := i) sl_22 h.D.slh)) ?_
   refine zdla 8 (fun w hS => (xlr (u := .int .i64 (p.D i)) pl_3 (h.D.below hS.below))) ?_
   have hbv := h.iD i
   refine zdv 9 (fun _ => xgtr) ?_
   refine zdd <| ztn ?_
   refine zcif ?_ ?_ <;> intro hc
   ·
    refine zsr ?_
    refine zlv xas ?_
    refine zlt <| zrt <| zbr <| ztr <| ztr <| zbr <| ztr <| zf1 ⟨_, rfl, ?_⟩
    exact ⟨false_B (by intro hh; first | exact absurd hh.1 ‹_› | (have := hh.2 i h0 (by omega); omega)), hS.nl⟩
   refine zsk <| zbn <| ztn <| zrg ?_
   refine zlv xmv ?_
   refine zlv (xadd (r := i + 1)) ?_
   refine zlv xas ?_
   refine zln <| zlq ⟨i + 1, rfl, (by omega), (by omega), ?_, rfl, hS⟩
   ·
    intro k h0' h1'; rcases Int.lt_or_eq_of_le (show k ≤ i by omega) with hk | hk; exact hall k h0' hk; rw [hk]; omega
  refine zxt <| ztx <| ztx <| zbh <| ztn <| zsr ?_
  refine zlv xas ?_
  refine zlt <| zrt <| zf1 ⟨_, rfl, ?_⟩
  exact ⟨true_B (by exact ⟨hfit, fun k k0 k1 => hall k k0 (by omega)⟩), hS.nl⟩
end Go.Proofs.Ytopmifmfecfaaaa
namespace Go.Proofs.Ytopmifmfecfaaaa
open Go Go.RowKit Go.Proofs.Gw
theorem cl_37 : calledT Try.prog 37 = true := by kernel_rfl
theorem cl_38 : calledT Try.prog 38 = true := by kernel_rfl
theorem it_112 : Try.prog.underlying 112 = some (.int .u64) := by kernel_rfl
theorem it_3 : Try.prog.underlying 3 = some (.int .i64) := by kernel_rfl
theorem so_112 : (Try.prog.underlying 112).isSome = true := by kernel_rfl
theorem so_3 : (Try.prog.underlying 3).isSome = true := by kernel_rfl
theorem Sat.oldblk {w0 w : World} {l : List Ent} {g : Nat} {cs : List Value} (hS : Sat w0 w l) (h : (Ent.blk g cs).holds w0) : (Ent.blk g cs).holds w := by
  obtain ⟨T, h⟩ := h
  exact ⟨T, by rw [hS.below.block g (by rw [Array.getElem?_eq_some_iff] at h; exact h.1)]; exact h⟩
theorem xlfs {L : List (Nat × Value)} {w0 w : World} {l : List Ent} {o : Oper} {x : Operand} {T : TypeId} {k g : Nat} {cs : List Value} (ht : structT Try.prog T = some k) (h : (Ent.blk g cs).holds w0) (hS : Sat w0 w l) (ho : o.op = .load T x := by exact rfl)
    (hx : evL L x = some (.pointer (some ⟨g, 0, none⟩)) := by exact rfl) (hk : cs.length = k := by exact rfl) : Runs Try.prog L w o (.value (.agg cs.toArray)) w := ex_loads ho (by rw [ht, hk]) hx (Sat.oldblk hS h).cells
end Go.Proofs.Ytopmifmfecfaaaa
namespace Go.Proofs.Ytopmifmfecfaaaa
open Go Go.RowKit Go.Proofs.Gw
theorem cl_43 : calledT Try.prog 43 = true := by kernel_rfl
theorem cl_65 : calledT Try.prog 65 = true := by kernel_rfl
theorem cl_66 : calledT Try.prog 66 = true := by kernel_rfl
theorem cl_74 : calledT Try.prog 74 = true := by kernel_rfl
theorem el_65 : elemT Try.prog 65 = some (.agg #[.int .i64 0, .int .i64 0], 2, 16) := by kernel_rfl
theorem fd_36_2 : fieldT Try.prog 36 2 = some 2 := by kernel_rfl
theorem fd_36_3 : fieldT Try.prog 36 3 = some 3 := by kernel_rfl
theorem fd_52_0 : fieldT Try.prog 52 0 = some 0 := by kernel_rfl
theorem fd_52_2 : fieldT Try.prog 52 2 = some 2 := by kernel_rfl
theorem fd_52_3 : fieldT Try.prog 52 3 = some 3 := by kernel_rfl
theorem st_65 : structT Try.prog 65 = some 2 := by kernel_rfl
theorem gcd_step {x y : Int} (hx : 0 ≤ x) (hy : 0 < y) : Int.gcd y (x.tmod y) = Int.gcd x y := by
  rw [Int.tmod_eq_emod_of_nonneg hx]
  obtain ⟨m, rfl⟩ := Int.eq_ofNat_of_zero_le hx
  obtain ⟨n, rfl⟩ := Int.eq_ofNat_of_zero_le (show 0 ≤ y by omega)
  show Nat.gcd n (m % n) = Nat.gcd m n
  rw [Nat.gcd_comm, ← Nat.gcd_rec, Nat.gcd_comm]
set_option maxRecDepth 20000 in
theorem c_same28 {va vb : Value} {n m : Int} {f g : Int → Int} (w0 : World) (hA : Row w0 va 1 n (ints f)) (hB2 : Row w0 vb 1 m (ints g)) :
    Calls Try.prog 66 [va, vb].toArray w0 fun e w => ∃ v, e = .returned v ∧ v = B (n = m ∧ ∀ k, 0 ≤ k → k < n → f k = g k) ∧ Sat w0 w [] := by
  have hn := hA.slh.n0; have hm1 := hB2.slh.n1; have hn1 := hA.slh.n1
  refine zenG Try.func66 Try.ntmps66 fun w hS => ?_
  refine zsr ?_
  refine zlv xas ?_
  refine zlt <| zsq <| zsr ?_
  refine zlv xmv ?_
  refine zlv (xln sl_22 hA.slh) ?_
  refine zlv xmv ?_
  refine zlv (xln sl_22 hB2.slh) ?_
  refine zlv xneq ?_
  refine zlt ?_
  refine zcif ?_ ?_ <;> intro hc
  ·
   refine zsr ?_
   refine zlv xas ?_
   refine zlt <| zrt <| ztr <| zf1 ⟨_, rfl, ?_⟩
   exact ⟨false_B (by rintro ⟨h1, h2⟩; first | omega | exact absurd (h2 i h0 (by omega)) (by omega)), hS⟩
  refine zsk <| ztn <| zsq <| zsr ?_
  refine zlv xas ?_
  refine zlt <| zbk <| zlp (fun mm M w => ∃ (i : Int), mm = ((n - i).toNat) ∧ (0 ≤ i) ∧ (i ≤ n) ∧ (∀ k, 0 ≤ k → k < i → f k = g k) ∧ M = [(0, va), (1, vb), (5, .int .i64 i)] ∧ Sat w0 w []) ⟨0, rfl, (by omega), (by omega), ?_, rfl, hS⟩ ?_
  ·
   intro k h0 h1; omega
  clear hS w
  rintro mm M w ⟨i, rfl, h0, h1, hall, rfl, hS⟩
  refine zsq <| zsr ?_
  refine zs2 ?_
  refine zlv (xln sl_22 hA.slh) ?_
  refine zlv xlss ?_
  refine zlt ?_
  refine zcif ?_ ?_ <;> intro hc
  ·
   refine zsk <| ztn <| zsq <| zbk <| zsq ?_
   refine zdst [] [] 1000 mx_ hS ?_; clear hS; intro w hS
   refine zdv 0 (fun _ => xmv) ?_
   refine zdv 1 (fun _ => xmv) ?_
   refine zdv 2 (fun _ => (xix (kk := i) sl_22 hA.slh)) ?_
   refine zdla 3 (fun w hS => (xlr (u := .int .i64 (f i)) pl_3 (hA.below hS.below))) ?_
   refine zdv 4 (fun _ => xmv) ?_
   refine zdv 5 (fun _ => xmv) ?_
   refine zdv 6 (fun _ => (xix (kk := i) sl_22 hB2.slh)) ?_
   refine zdla 7 (fun w hS => (xlr (u := .int .i64 (g i)) pl_3 (hB2.below hS.below))) ?_
   refine zdv 8 (fun _ => xneq) ?_
   refine zdd <| ztn ?_
   refine zcif ?_ ?_ <;> intro hc
   ·
    refine zsr ?_
    refine zlv xas ?_
    refine zlt <| zrt <| zbr <| ztr <| ztr <| zbr <| ztr <| zf1 ⟨_, rfl, ?_⟩
    exact ⟨false_B (by rintro ⟨h1, h2⟩; first | omega | exact absurd (h2 i h0 (by omega)) (by omega)), hS⟩
   refine zsk <| zbn <| ztn <| zrg ?_
   refine zlv xmv ?_
   refine zlv (xadd (r := i + 1)) ?_
   refine zlv xas ?_
   refine zln <| zlq ⟨i + 1, rfl, (by omega), (by omega), ?_, rfl, hS⟩
   ·
    intro k h0' h1'; rcases Int.lt_or_eq_of_le (show k ≤ i by omega) with hk | hk; exact hall k h0' hk; rw [hk]; omega
  refine zxt <| ztx <| ztx <| zbh <| ztn <| zsr ?_
  refine zlv xas ?_
  refine zlt <| zrt <| zf1 ⟨_, rfl, ?_⟩
  exact ⟨true_B ⟨by omega, fun k k0 k1 => hall k k0 (by omega)⟩, hS⟩
set_option maxRecDepth 20000 in
theorem c_few30 {vM : Value} {u : Int} {mv : Int → Value} {ml : Int → Int} {mf : Int → Int → Int} (w0 : World) (hM : MAt w0 vM u mv ml mf) :
    Calls Try.prog 47 [vM].toArray w0 fun e w => ∃ v, e = .returned v ∧ v = B ((∀ k, 0 ≤ k → k < u → ml k ≤ 25) ∧ u ≤ 30) ∧ Sat w0 w [] := by
  have hu := hM.row.slh.n0; have hu1 := hM.row.slh.n1
  refine zenG Try.func47 Try.ntmps47 fun w hS => ?_
  refine zsr ?_
  refine zlv xas ?_
  refine zlt <| zsq <| zsr ?_
  refine zlv xas ?_
  refine zlt <| zbk <| zlp (fun mm M w => ∃ (i : Int), mm = ((u - i).toNat) ∧ (0 ≤ i) ∧ (i ≤ u) ∧ (∀ k, 0 ≤ k → k < i → ml k ≤ 25) ∧ M = [(0, vM), (3, .int .i64 i)] ∧ Sat w0 w []) ⟨0, rfl, (by omega), (by omega), ?_, rfl, hS⟩ ?_
  ·
   intro k k0 k1; omega
  clear hS w
  rintro mm M w ⟨i, rfl, h0, h1, hall, rfl, hS⟩
  refine zsq <| zsr ?_
  refine zs2 ?_
  refine zlv (xln sl_32 hM.row.slh) ?_
  refine zlv xlss ?_
  refine zlt ?_
  refine zcif ?_ ?_ <;> intro hc
  ·
   refine zsk <| ztn <| zsq <| zbk <| zsr ?_
   refine zs2 ?_
   refine zlv (xix (kk := i) sl_32 hM.row.slh) ?_
   refine zlv (xlr (u := (mv i)) pl_22 (hM.row.below hS.below)) ?_
   refine zlv (xln sl_22 (hM.p i (by omega) (by omega)).slh) ?_
   refine zlv xgtr ?_
   refine zlt ?_
   refine zcif ?_ ?_ <;> intro hc
   ·
    refine zsr ?_
    refine zlv xas ?_
    refine zlt <| zrt <| zbr <| ztr <| ztr <| zbr <| ztr <| zf1 ⟨_, rfl, ?_⟩
    exact ⟨false_B (by rintro ⟨h1, h2⟩; have := h1 i h0 (by omega); omega), hS⟩
   refine zsk <| zbn <| ztn <| zrg ?_
   refine zlv xmv ?_
   refine zlv (xadd (r := i + 1)) ?_
   refine zlv xas ?_
   refine zln <| zlq ⟨i + 1, rfl, (by omega), (by omega), ?_, rfl, hS⟩
   ·
    intro k h0' h1'; rcases Int.lt_or_eq_of_le (show k ≤ i by omega) with hk | hk; exact hall k h0' hk; rw [hk]; omega
  refine zxt <| ztx <| ztx <| zbh <| ztn <| zsr ?_
  refine zlv xmv ?_
  refine zlv (xln sl_32 hM.row.slh) ?_
  refine zs2 ?_
  refine zlt <| zrt <| zf1 ⟨_, rfl, ?_⟩
  exact ⟨B_congr (by exact ⟨fun hx => ⟨fun k k0 k1 => hall k k0 (by omega), by omega⟩, fun hx => by have := hx.2; omega⟩), hS⟩
set_option maxRecDepth 20000 in
theorem c_gcd {x y : Int} (w0 : World) (hx0 : 0 ≤ x ∧ x ≤ 9223372036854775807) (hy0 : 0 ≤ y ∧ y ≤ 9223372036854775807) :
    Calls Try.prog 65 [.int .i64 x, .int .i64 y].toArray w0 fun e w => ∃ v, e = .returned v ∧ v = .int .i64 (Int.gcd x y) ∧ Sat w0 w [] := by
  refine zenG Try.func65 Try.ntmps65 fun w hS => ?_
  refine zsr ?_
  refine zlv xas ?_
  refine zlt <| zsq <| zbk <| zlp (fun mm M w => ∃ (x1 : Int) (y1 : Int), mm = y1.toNat ∧ (0 ≤ x1) ∧ (x1 ≤ 9223372036854775807) ∧ (0 ≤ y1) ∧ (y1 ≤ 9223372036854775807) ∧ (Int.gcd x1 y1 = Int.gcd x y) ∧ M = [(0, .int .i64 x1), (1, .int .i64 y1), (4, .int .i64 0)] ∧ Sat w0 w []) ⟨x, y, rfl, (by omega), (by omega), (by omega), ?_, ?_, rfl, hS⟩ ?_
  ·
   omega
  ·
   rfl
  clear hS w
  rintro mm M w ⟨x1, y1, rfl, hx, hx1, hy, hy1, hgc, rfl, hS⟩
  have htn := Int.tmod_nonneg y1 hx
  refine zsq <| zsr ?_
  refine zs2 ?_
  refine zlt ?_
  refine zcif ?_ ?_ <;> intro hc
  ·
   refine zsk <| ztn <| zbk ?_
   refine zdst [] [] 1000 mx_ hS ?_; clear hS; intro w hS
   refine zdv 0 (fun _ => xmv) ?_
   refine zdv 1 (fun _ => xmv) ?_
   refine zdv 2 (fun _ => xmv) ?_
   refine zdv 3 (fun _ => (xrem (r := (Int.tmod x1 y1)))) ?_
   refine zdv 4 (fun _ => xas) ?_
   refine zdv 5 (fun _ => xas) ?_
   refine zdd <| zbn <| zlq ⟨y1, (Int.tmod x1 y1), rfl, (by omega), (by omega), (by omega), ?_, ?_, rfl, hS⟩ (hlt := (by have := Int.tmod_lt_of_pos x1 (show 0 < y1 by omega); omega))
   ·
    have := Int.tmod_lt_of_pos x1 (show 0 < y1 by omega); omega
   ·
    rw [gcd_step hx (by omega)]; exact hgc
  refine zxt <| ztx <| ztx <| zbh <| ztn <| zsr ?_
  refine zs2 ?_
  refine zlt <| zrt <| zf1 ⟨_, rfl, ?_⟩
  obtain rfl : y1 = 0 := by omega
  exact ⟨by rw [← hgc, Int.gcd_zero_right]; congr 1; omega, hS⟩
def SoundS (s : So) : Prop := (1 ≤ s.den ∧ s.den ≤ 1073741824) ∧ (0 ≤ s.val ∧ s.val ≤ 1073741824) ∧ ∀ k, 0 ≤ k → k < s.n → 0 ≤ s.X k ∧ s.X k ≤ 1073741824
def two (x y : Int) : Int → Int := fun k => [x, y].getD k.toNat 0
theorem cat2_at {n x y : Int} {f : Int → Int} (hn : 0 ≤ n) : (∀ k, 0 ≤ k → k < n → cat n f (two x y) k = f k) ∧ cat n f (two x y) n = x ∧ cat n f (two x y) (n + 1) = y := by
  refine ⟨fun k k0 k1 => ?_, ?_, ?_⟩
  · unfold cat; rw [if_pos k1]
  · unfold cat; rw [if_neg (by omega), Int.sub_self]; rfl
  · unfold cat; rw [if_neg (by omega), show n + 1 - n = 1 by omega]; rfl
theorem sound_max {s : So} {x : Int} (hn : 0 ≤ s.n) (he : ∃ k, 0 ≤ k ∧ k < s.n + 2 ∧ cat s.n s.X (two s.val s.den) k = x) (ha : ∀ k, 0 ≤ k → k < s.n + 2 → cat s.n s.X (two s.val s.den) k ≤ x) (h1 : 1 ≤ s.den) (h2 : 0 ≤ s.val) (h3 : ¬ ∃ k, 0 ≤ k ∧ k < s.n ∧ s.X k < 0) : x ≤ 1073741824 ↔ SoundS s := by
  obtain ⟨c1, c2, c3⟩ := cat2_at (n := s.n) (x := s.val) (y := s.den) (f := s.X) hn
  constructor
  · intro hx
    have a1 := ha s.n hn (by omega)
    have a2 := ha (s.n + 1) (by omega) (by omega)
    exact ⟨⟨h1, by omega⟩, ⟨h2, by omega⟩, fun k k0 k1 => ⟨Int.not_lt.1 fun hh => h3 ⟨k, k0, k1, hh⟩, by have := ha k k0 (by omega); rw [c1 k k0 k1] at this; omega⟩⟩
  · rintro ⟨b1, b2, b3⟩
    obtain ⟨k, k0, k1, hk⟩ := he
    by_cases e : k < s.n
    · rw [c1 k k0 e] at hk; have := b3 k k0 e; omega
    · by_cases e2 : k = s.n
      · rw [e2, c2] at hk; omega
      · rw [show k = s.n + 1 by omega, c3] at hk; omega
theorem c_neg {x : Int} (w0 : World) :
    Calls Try.prog 74 [.int .i64 x].toArray w0 fun e w => ∃ v, e = .returned v ∧ v = B (x < 0) ∧ Sat w0 w [] := by
  refine zenG Try.func74 Try.ntmps74 fun w hS => ?_
  refine zsr ?_
  refine zlv xas ?_
  refine zlz ?_
  refine zs3 ?_
  refine zlt <| zrt <| zf1 ⟨_, rfl, ?_⟩
  exact ⟨B_congr (by omega), hS⟩
theorem c_ixneg {v : Value} {n : Int} {f : Int → Int} (w0 : World) (hR : Row w0 v 1 n (ints f)) :
    Calls Try.prog 78 [v, .func (.func 74) #[] #[]].toArray w0 fun e w => ∃ v, e = .returned v ∧ ∃ r : Int, v = .int .i64 r ∧ ((r = -1 ∧ ∀ k, 0 ≤ k → k < n → ¬ (f k < 0)) ∨ (0 ≤ r ∧ r < n ∧ (f r < 0))) ∧ Sat w0 w [] := by
  have hn := hR.slh.n0; have hn1 := hR.slh.n1
  refine zenG Try.func78 Try.ntmps78 fun w hS => ?_
  refine zsr ?_
  refine zlv xas ?_
  refine zlt <| zsq <| zsr ?_
  refine zlv xmv ?_
  refine zlv (xln sl_22 hR.slh) ?_
  refine zlv xmv ?_
  refine zlt <| zbk <| zlp (fun mm M w => ∃ (i : Int), mm = ((n - i).toNat) ∧ (0 ≤ i) ∧ (i ≤ n) ∧ (∀ k, 0 ≤ k → k < i → ¬ (f k < 0)) ∧ M = [(0, v), (1, .func (.func 74) #[] #[]), (7, .int .i64 n), (8, .int .i64 i)] ∧ Sat w0 w []) ⟨0, rfl, (by omega), (by omega), ?_, rfl, hS⟩ ?_
  ·
   intro k h0 h1; omega
  clear hS w
  rintro mm M w ⟨i, rfl, h0, h1, hall, rfl, hS⟩
  refine zsr ?_
  refine zlv xlss ?_
  refine zlt <| zsq ?_
  refine zcif ?_ ?_ <;> intro hc
  ·
   refine zsk <| ztn <| zsq <| zbk <| zsr ?_
   refine zs2 ?_
   refine zlz ?_
   refine zs3 ?_
   refine zlv (xix (kk := i) sl_22 hR.slh) ?_
   refine zlv (xlr (u := .int .i64 (f i)) pl_3 (hR.below hS.below)) ?_
   refine zlc (xc0 cl_74) (c_neg (x := (f i)) w) ?_; rintro _ w ⟨rfl, hS'⟩
   replace hS := hS.cmp hS'; clear hS'
   refine zlt ?_
   refine zcif ?_ ?_ <;> intro hc
   ·
    refine zsr ?_
    refine zs2 ?_
    refine zlt <| zrt <| zbr <| ztr <| ztr <| zbr <| ztr <| zf1 ⟨_, rfl, ?_⟩
    exact ⟨i, rfl, .inr ⟨by omega, by omega, ‹f i < 0›⟩, hS⟩
   refine zsk <| zbn <| ztn <| zrg ?_
   refine zlv (xadd (r := i + 1)) ?_
   refine zlv xmv ?_
   refine zln <| zlq ⟨i + 1, rfl, (by omega), (by omega), ?_, rfl, hS⟩
   ·
    intro k h0' h1'; rcases Int.lt_or_eq_of_le (show k ≤ i by omega) with hk | hk; exact hall k h0' hk; rw [hk]; assumption
  refine zxt <| ztx <| ztx <| zbh <| ztn <| zsr ?_
  refine zlv xas ?_
  refine zlt <| zrt <| zf1 ⟨_, rfl, ?_⟩
  exact ⟨-1, rfl, .inl ⟨rfl, fun k h0 h1 => hall k h0 (by omega)⟩, hS⟩
theorem c_coneg {v : Value} {n : Int} {f : Int → Int} (w0 : World) (hR : Row w0 v 1 n (ints f)) :
    Calls Try.prog 75 [v, .func (.func 74) #[] #[]].toArray w0 fun e w => ∃ v, e = .returned v ∧ v = B (∃ k, 0 ≤ k ∧ k < n ∧ (f k < 0)) ∧ Sat w0 w [] := by
  refine zenG Try.func75 Try.ntmps75 fun w hS => ?_
  refine zsr ?_
  refine zlv xas ?_
  refine zlz ?_
  refine zs2 ?_
  refine zlc (xc0 cl_78) (c_ixneg w (hR.below hS.below)) ?_; rintro _ w ⟨r1, rfl, hr1, hS'⟩
  replace hS := hS.cmp hS'; clear hS'
  refine zs2 ?_
  refine zlt <| zrt <| zf1 ⟨_, rfl, ?_⟩
  exact ⟨B_congr (by
   rcases hr1 with ⟨h1, h2⟩ | ⟨h1, h2, h3⟩
   · exact ⟨fun h => by omega, fun ⟨k, h4, h5, h6⟩ => absurd h6 (h2 k h4 h5)⟩
   · exact ⟨fun _ => ⟨_, h1, h2, h3⟩, fun _ => h1⟩), hS⟩
set_option maxRecDepth 20000 in
theorem c_sound30 {vX vY : Value} {s : So} (w0 : World) (hX : Row w0 vX 1 s.n (ints s.X)) (hY : Row w0 vY 1 s.m (ints s.Y)) (hn60 : s.n ≤ 1000) :
    Calls Try.prog 43 [.agg #[vX, vY, .int .i64 s.val, .int .i64 s.den]].toArray w0 fun e w => ∃ v, e = .returned v ∧ v = B (SoundS s) ∧ Sat w0 w [] := by
  have hn := hX.slh.n0; have hn1 := hX.slh.n1
  refine zenG Try.func43 Try.ntmps43 fun w hS => ?_
  refine zsr ?_
  refine zla (xbx (cs := [_, _, _, _]) hS) ?_; rintro _ w ⟨g1, rfl, hS⟩
  replace hS := hS.n1
  refine zlv xas ?_
  refine zlt <| zsq ?_
  refine zdst [0] [0] 1000 mx_ hS ?_; clear hS; intro w hS
  refine zdv 0 (fun _ => (xfb 0 fd_36_0)) ?_
  refine zdla 1 (fun w hS => (xlb 0 pl_22 hS)) ?_
  refine zdv 3 (fun _ => (xfb 2 fd_36_2)) ?_
  refine zdla 4 (fun w hS => (xlb 0 pl_3 hS)) ?_
  refine zdv 5 (fun _ => (xfb 3 fd_36_3)) ?_
  refine zdla 6 (fun w hS => (xlb 0 pl_3 hS)) ?_
  refine zdfk (r := [2, 7]) ((zdn1 ?_ (zdn1 ?_ zdn0)))
  ·
   refine zkc (xc0 cl_42) (c_clone (n := s.n) (f := s.X) w (hX.below hS.below) (by omega)) ?_; rintro vq1 w ⟨_, rfl, hslq1, hS'⟩
   replace hS : Sat w0 w [.blk g1 [vX, vY, .int .i64 s.val, .int .i64 s.den], .own vq1 1 3 s.n (ints s.X)] := hS.comp hS'; clear hS'
   refine ⟨⟨fun _ => hS.pk [0], hS.pk [0]⟩, ?_⟩
   refine zda 7 (xli (n := 2) (len := 2) (pv := [(0, .int .i64 s.val), (1, .int .i64 s.den)]) (cs := [.int .i64 s.val, .int .i64 s.den]) (c := ints (fun k => [s.val, s.den].getD k.toNat 0)) sl_22 el_3 hS) ?_; rintro v1 w ⟨hS, hv1⟩
   replace hS := hS.n3
   refine ⟨⟨fun _ => hS.pk [0], hS.pk [0]⟩, ?_⟩
   refine zda 8 (xap 1 (r := s.n + 2) (f := ints (cat s.n s.X (two s.val s.den))) sl_22 el_3 hS (hS.rowN 2 rfl) (by exact cat_ints1 _ _ _)) ?_; rintro v2 w ⟨hS, hv2⟩
   replace hS := hS.n3
   refine ⟨⟨fun _ => hS.pk [0], hS.pk [0]⟩, ?_⟩
   refine zdv 9 (fun _ => xas) ?_
   refine zdd <| ztn <| zsr ?_
   refine zlv xas ?_
   refine zlz ?_
   refine zlv (xfb 3 fd_36_3) ?_
   refine zlv (xlb 0 pl_3 hS) ?_
   refine zs2 ?_
   refine zlb 17 ?_ ?_ <;> intro hc
   ·
    refine zlv (xfb 2 fd_36_2) ?_
    refine zlv (xlb 0 pl_3 hS) ?_
    refine zs3 ?_
    refine zlb 22 ?_ ?_ <;> intro hc
    ·
     refine zlv (xfb 0 fd_36_0) ?_
     refine zlv (xlb 0 pl_22 hS) ?_
     refine zlv xmv ?_
     refine zlc (xc0 cl_75) (c_coneg (n := s.n) (f := s.X) w (hX.below hS.below)) ?_; rintro _ w ⟨rfl, hS'⟩
     replace hS := hS.cmp hS'; clear hS'
     refine zs3 ?_
     refine zlb 29 ?_ ?_ <;> intro hc
     ·
      refine zlv xmv ?_
      refine zlc (xc0 cl_38) (c_max (n := (s.n + 2)) (f := (cat s.n s.X (two s.val s.den))) w (hS.rowN 1 rfl) (by omega)) ?_; rintro _ w ⟨x1, rfl, hex1, hax1, hS'⟩
      replace hS := hS.cmp hS'; clear hS'
      refine zs3 ?_
      refine zlt <| zrt <| zf1 ⟨_, rfl, ?_⟩
      exact ⟨B_congr (sound_max hn hex1 hax1 (by omega) (by omega) (show ¬ (∃ k, 0 ≤ k ∧ k < s.n ∧ s.X k < 0) by first | assumption | exact fun hh => absurd hh ‹_›)), hS.nl⟩
     iterate 3 refine zlo ?_
     refine zs2 ?_
     refine zlt <| zrt <| zf1 ⟨_, rfl, ?_⟩
     exact ⟨false_B (by rintro ⟨g1, g2, g3⟩; first | omega | (obtain ⟨k, k0, k1, hk⟩ := (show ∃ k, 0 ≤ k ∧ k < s.n ∧ s.X k < 0 by first | assumption | exact Classical.not_not.1 (by assumption)); have := g3 k k0 k1; omega)), hS.nl⟩
    iterate 5 refine zlo ?_
    refine zs2 ?_
    iterate 3 refine zlo ?_
    refine zs2 ?_
    refine zlt <| zrt <| zf1 ⟨_, rfl, ?_⟩
    exact ⟨false_B (by rintro ⟨g1, g2, g3⟩; first | omega | (obtain ⟨k, k0, k1, hk⟩ := (show ∃ k, 0 ≤ k ∧ k < s.n ∧ s.X k < 0 by first | assumption | exact Classical.not_not.1 (by assumption)); have := g3 k k0 k1; omega)), hS.nl⟩
   iterate 3 refine zlo ?_
   refine zs2 ?_
   iterate 5 refine zlo ?_
   refine zs2 ?_
   iterate 3 refine zlo ?_
   refine zs2 ?_
   refine zlt <| zrt <| zf1 ⟨_, rfl, ?_⟩
   exact ⟨false_B (by rintro ⟨g1, g2, g3⟩; first | omega | (obtain ⟨k, k0, k1, hk⟩ := (show ∃ k, 0 ≤ k ∧ k < s.n ∧ s.X k < 0 by first | assumption | exact Classical.not_not.1 (by assumption)); have := g3 k k0 k1; omega)), hS.nl⟩
  refine zka (xli (n := 2) (len := 2) (pv := [(0, .int .i64 s.val), (1, .int .i64 s.den)]) (cs := [.int .i64 s.val, .int .i64 s.den]) (c := ints (fun k => [s.val, s.den].getD k.toNat 0)) sl_22 el_3 hS) ?_; rintro v1 w ⟨hS, hv1⟩
  replace hS := hS.n2
  refine ⟨⟨fun _ => hS.pk [0], hS.pk [0]⟩, ?_⟩
  refine zdc 2 (xc0 cl_42) (c_clone (n := s.n) (f := s.X) w (hX.below hS.below) (by omega)) ?_; rintro vq1 w ⟨_, rfl, hslq1, hS'⟩
  replace hS : Sat w0 w [.blk g1 [vX, vY, .int .i64 s.val, .int .i64 s.den], .own v1 1 3 2 (ints (fun k => [s.val, s.den].getD k.toNat 0)), .own vq1 1 3 s.n (ints s.X)] := hS.comp hS'; clear hS'
  refine ⟨⟨fun _ => hS.pk [0], hS.pk [0]⟩, ?_⟩
  refine zda 8 (xap 2 (r := s.n + 2) (f := ints (cat s.n s.X (two s.val s.den))) sl_22 el_3 hS (hS.rowN 1 rfl) (by exact cat_ints1 _ _ _)) ?_; rintro v2 w ⟨hS, hv2⟩
  replace hS := hS.n3
  refine ⟨⟨fun _ => hS.pk [0], hS.pk [0]⟩, ?_⟩
  refine zdv 9 (fun _ => xas) ?_
  refine zdd <| ztn <| zsr ?_
  refine zlv xas ?_
  refine zlz ?_
  refine zlv (xfb 3 fd_36_3) ?_
  refine zlv (xlb 0 pl_3 hS) ?_
  refine zs2 ?_
  refine zlb 17 ?_ ?_ <;> intro hc
  ·
   refine zlv (xfb 2 fd_36_2) ?_
   refine zlv (xlb 0 pl_3 hS) ?_
   refine zs3 ?_
   refine zlb 22 ?_ ?_ <;> intro hc
   ·
    refine zlv (xfb 0 fd_36_0) ?_
    refine zlv (xlb 0 pl_22 hS) ?_
    refine zlv xmv ?_
    refine zlc (xc0 cl_75) (c_coneg (n := s.n) (f := s.X) w (hX.below hS.below)) ?_; rintro _ w ⟨rfl, hS'⟩
    replace hS := hS.cmp hS'; clear hS'
    refine zs3 ?_
    refine zlb 29 ?_ ?_ <;> intro hc
    ·
     refine zlv xmv ?_
     refine zlc (xc0 cl_38) (c_max (n := (s.n + 2)) (f := (cat s.n s.X (two s.val s.den))) w (hS.rowN 2 rfl) (by omega)) ?_; rintro _ w ⟨x1, rfl, hex1, hax1, hS'⟩
     replace hS := hS.cmp hS'; clear hS'
     refine zs3 ?_
     refine zlt <| zrt <| zf1 ⟨_, rfl, ?_⟩
     exact ⟨B_congr (sound_max hn hex1 hax1 (by omega) (by omega) (show ¬ (∃ k, 0 ≤ k ∧ k < s.n ∧ s.X k < 0) by first | assumption | exact fun hh => absurd hh ‹_›)), hS.nl⟩
    iterate 3 refine zlo ?_
    refine zs2 ?_
    refine zlt <| zrt <| zf1 ⟨_, rfl, ?_⟩
    exact ⟨false_B (by rintro ⟨g1, g2, g3⟩; first | omega | (obtain ⟨k, k0, k1, hk⟩ := (show ∃ k, 0 ≤ k ∧ k < s.n ∧ s.X k < 0 by first | assumption | exact Classical.not_not.1 (by assumption)); have := g3 k k0 k1; omega)), hS.nl⟩
   iterate 5 refine zlo ?_
   refine zs2 ?_
   iterate 3 refine zlo ?_
   refine zs2 ?_
   refine zlt <| zrt <| zf1 ⟨_, rfl, ?_⟩
   exact ⟨false_B (by rintro ⟨g1, g2, g3⟩; first | omega | (obtain ⟨k, k0, k1, hk⟩ := (show ∃ k, 0 ≤ k ∧ k < s.n ∧ s.X k < 0 by first | assumption | exact Classical.not_not.1 (by assumption)); have := g3 k k0 k1; omega)), hS.nl⟩
  iterate 3 refine zlo ?_
  refine zs2 ?_
  iterate 5 refine zlo ?_
  refine zs2 ?_
  iterate 3 refine zlo ?_
  refine zs2 ?_
  refine zlt <| zrt <| zf1 ⟨_, rfl, ?_⟩
  exact ⟨false_B (by rintro ⟨g1, g2, g3⟩; first | omega | (obtain ⟨k, k0, k1, hk⟩ := (show ∃ k, 0 ≤ k ∧ k < s.n ∧ s.X k < 0 by first | assumption | exact Classical.not_not.1 (by assumption)); have := g3 k k0 k1; omega)), hS.nl⟩
theorem gcd_pos1 {x y : Int} (hx : 0 ≤ x) (hy : 1 ≤ y) : 1 ≤ (Int.gcd x y : Int) := by
  have : Int.gcd x y ≠ 0 := fun h => by have := (Int.gcd_eq_zero_iff.1 h).2; omega
  omega
def ValR (s : So) (x y e : Int) : Prop := (¬ SoundS s ∧ x = 0 ∧ y = 0 ∧ e = 1) ∨ (SoundS s ∧ x = s.val.tdiv (Int.gcd s.val s.den) ∧ y = s.den.tdiv (Int.gcd s.val s.den) ∧ e = 0)
theorem ValR.same {s : So} {x y e x2 y2 e2 : Int} (h : ValR s x y e) (h' : ValR s x2 y2 e2) : x = x2 ∧ y = y2 ∧ e = e2 := by
  rcases h with ⟨h1, h2, h3, h4⟩ | ⟨h1, h2, h3, h4⟩ <;> rcases h' with ⟨g1, g2, g3, g4⟩ | ⟨g1, g2, g3, g4⟩
  · exact ⟨by omega, by omega, by omega⟩
  · exact absurd g1 h1
  · exact absurd h1 g1
  · exact ⟨by rw [h2, g2], by rw [h3, g3], by omega⟩
def CeilR (s : So) (x e : Int) : Prop := (¬ SoundS s ∧ x = 0 ∧ e = 1) ∨ (SoundS s ∧ x = (s.val + s.den - 1).tdiv s.den ∧ e = 0)
theorem CeilR.same {s : So} {x e x2 e2 : Int} (h : CeilR s x e) (h' : CeilR s x2 e2) : x = x2 ∧ e = e2 := by
  rcases h with ⟨h1, h2, h4⟩ | ⟨h1, h2, h4⟩ <;> rcases h' with ⟨g1, g2, g4⟩ | ⟨g1, g2, g4⟩
  · exact ⟨by omega, by omega⟩
  · exact absurd g1 h1
  · exact absurd h1 g1
  · exact ⟨by rw [h2, g2], by omega⟩
set_option maxRecDepth 20000 in
theorem c_rsound30 {vX vY : Value} {s : So} (w0 : World) (hX : Row w0 vX 1 s.n (ints s.X)) (hY : Row w0 vY 1 s.m (ints s.Y)) :
    Calls Try.prog 62 [.agg #[vX, vY, .int .i64 s.val, .int .i64 s.den]].toArray w0 fun e w => ∃ v, e = .returned v ∧ v = B (SoundS s) ∧ Sat w0 w [] := by
  have hn := hX.slh.n0; have hn1 := hX.slh.n1
  refine zenG Try.func62 Try.ntmps62 fun w hS => ?_
  refine zsr ?_
  refine zla (xbx (cs := [_, _, _, _]) hS) ?_; rintro _ w ⟨g1, rfl, hS⟩
  replace hS := hS.n1
  refine zlv xas ?_
  refine zlt <| zsq <| zsr ?_
  refine zlv xas ?_
  refine zlt <| zbk <| zlp (fun mm M w => ∃ (i : Int), mm = ((s.n - i).toNat) ∧ (0 ≤ i) ∧ (i ≤ s.n) ∧ (∀ k, 0 ≤ k → k < i → 0 ≤ s.X k ∧ s.X k ≤ 1073741824) ∧ M = [(1, .pointer (some ⟨g1, 0, none⟩)), (3, .int .i64 i)] ∧ Sat w0 w [.blk g1 [vX, vY, .int .i64 s.val, .int .i64 s.den]]) ⟨0, rfl, (by omega), (by omega), ?_, rfl, hS⟩ ?_
  ·
   intro k k0 k1; omega
  clear hS w
  rintro mm M w ⟨i, rfl, h0, h1, hall, rfl, hS⟩
  refine zsq <| zsr ?_
  refine zlv xmv ?_
  refine zlv (xfb 0 fd_52_0) ?_
  refine zlv (xlb 0 pl_22 hS) ?_
  refine zlv (xln sl_22 hX.slh) ?_
  refine zlv xlss ?_
  refine zlt ?_
  refine zcif ?_ ?_ <;> intro hc
  ·
   refine zsk <| ztn <| zsq <| zbk <| zsr ?_
   refine zlv (xfb 0 fd_52_0) ?_
   refine zlv (xlb 0 pl_22 hS) ?_
   refine zlv xmv ?_
   refine zlv (xix (kk := i) sl_22 hX.slh) ?_
   refine zlv (xlr (u := .int .i64 (s.X i)) pl_3 (hX.below hS.below)) ?_
   refine zs2 ?_
   refine zlb 17 ?_ ?_ <;> intro hc
   ·
    iterate 6 refine zlo ?_
    refine zlv xpt ?_
    refine zlt <| zct <| zsr ?_
    refine zlv xas ?_
    refine zlt <| zrt <| zbr <| ztr <| ztr <| zbr <| ztr <| zf1 ⟨_, rfl, ?_⟩
    exact ⟨false_B (by rintro ⟨g1, g2, g3⟩; first | omega | (have := g3 i h0 (by omega); omega)), hS.nl⟩
   refine zlv (xfb 0 fd_52_0) ?_
   refine zlv (xlb 0 pl_22 hS) ?_
   refine zlv xmv ?_
   refine zlv (xix (kk := i) sl_22 hX.slh) ?_
   refine zlv (xlr (u := .int .i64 (s.X i)) pl_3 (hX.below hS.below)) ?_
   refine zs2 ?_
   refine zlt ?_
   refine zcif ?_ ?_ <;> intro hc
   ·
    refine zsr ?_
    refine zlv xas ?_
    refine zlt <| zrt <| zbr <| ztr <| ztr <| zbr <| ztr <| zf1 ⟨_, rfl, ?_⟩
    exact ⟨false_B (by rintro ⟨g1, g2, g3⟩; first | omega | (have := g3 i h0 (by omega); omega)), hS.nl⟩
   refine zsk <| zbn <| ztn <| zrg ?_
   refine zlv xmv ?_
   refine zlv (xadd (r := i + 1)) ?_
   refine zlv xas ?_
   refine zln <| zlq ⟨i + 1, rfl, (by omega), (by omega), ?_, rfl, hS⟩
   ·
    intro k h0' h1'; rcases Int.lt_or_eq_of_le (show k ≤ i by omega) with hk | hk; exact hall k h0' hk; rw [hk]; omega
  refine zxt <| ztx <| ztx <| zbh <| ztn <| zsr ?_
  refine zlv (xfb 3 fd_52_3) ?_
  refine zlv (xlb 0 pl_3 hS) ?_
  refine zs2 ?_
  refine zlb 28 ?_ ?_ <;> intro hc
  ·
   refine zlv (xfb 3 fd_52_3) ?_
   refine zlv (xlb 0 pl_3 hS) ?_
   refine zs3 ?_
   refine zlb 33 ?_ ?_ <;> intro hc
   ·
    refine zlv (xfb 2 fd_52_2) ?_
    refine zlv (xlb 0 pl_3 hS) ?_
    refine zs3 ?_
    refine zlb 38 ?_ ?_ <;> intro hc
    ·
     refine zlv (xfb 2 fd_52_2) ?_
     refine zlv (xlb 0 pl_3 hS) ?_
     refine zs3 ?_
     refine zlt <| zrt <| zf1 ⟨_, rfl, ?_⟩
     exact ⟨B_congr (by exact ⟨fun hx => ⟨⟨by omega, by omega⟩, ⟨by omega, by omega⟩, fun k k0 k1 => hall k k0 (by omega)⟩, fun g => by have := g.2.1; omega⟩), hS.nl⟩
    iterate 3 refine zlo ?_
    refine zs2 ?_
    refine zlt <| zrt <| zf1 ⟨_, rfl, ?_⟩
    exact ⟨false_B (by rintro ⟨g1, g2, g3⟩; first | omega | (have := g3 i h0 (by omega); omega)), hS.nl⟩
   iterate 3 refine zlo ?_
   refine zs2 ?_
   iterate 3 refine zlo ?_
   refine zs2 ?_
   refine zlt <| zrt <| zf1 ⟨_, rfl, ?_⟩
   exact ⟨false_B (by rintro ⟨g1, g2, g3⟩; first | omega | (have := g3 i h0 (by omega); omega)), hS.nl⟩
  iterate 3 refine zlo ?_
  refine zs2 ?_
  iterate 3 refine zlo ?_
  refine zs2 ?_
  iterate 3 refine zlo ?_
  refine zs2 ?_
  refine zlt <| zrt <| zf1 ⟨_, rfl, ?_⟩
  exact ⟨false_B (by rintro ⟨g1, g2, g3⟩; first | omega | (have := g3 i h0 (by omega); omega)), hS.nl⟩
set_option maxRecDepth 20000 in
theorem c_value30 {vX vY : Value} {s : So} (w0 : World) (hX : Row w0 vX 1 s.n (ints s.X)) (hY : Row w0 vY 1 s.m (ints s.Y)) (hn60 : s.n ≤ 1000) :
    Calls Try.prog 29 [.agg #[vX, vY, .int .i64 s.val, .int .i64 s.den]].toArray w0 fun e w => ∃ v, e = .returned v ∧ ∃ (x y e : Int), v = .tuple #[.agg #[.int .i64 x, .int .i64 y], .int .i64 e] ∧ ValR s x y e ∧ Sat w0 w [] := by
  have hn := hX.slh.n0; have hn1 := hX.slh.n1
  refine zenG Try.func29 Try.ntmps29 fun w hS => ?_
  refine zsr ?_
  refine zla (xbx (cs := [_, _, _, _]) hS) ?_; rintro _ w ⟨g1, rfl, hS⟩
  replace hS := hS.n1
  refine zla (xal (cs := [_, _]) el_65 hS) ?_; rintro _ w ⟨g2, rfl, hS⟩
  replace hS := hS.n2
  refine zlv xas ?_
  refine zlt <| zsq <| zsr ?_
  refine zlv (xls 0 st_36 hS) ?_
  refine zlc (xc0 cl_43) (c_sound30 (s := s) w (hX.below hS.below) (hY.below hS.below) (by omega)) ?_; rintro _ w ⟨rfl, hS'⟩
  replace hS := hS.cmp hS'; clear hS'
  refine zlv xnot ?_
  refine zlt ?_
  refine zcif ?_ ?_ <;> intro hc
  ·
   refine zsr ?_
   refine zlv (xany (v := .agg #[.int .i64 0, .int .i64 0])) ?_
   refine zle (xsw 1 st_65 hS) ?_; clear hS; rintro w hS
   replace hS := hS.n2
   refine zlv xas ?_
   refine zlt <| zrt <| ztr <| zfct 1 st_65 hS ⟨_, rfl, ?_⟩
   exact ⟨0, 0, 1, rfl, .inl ⟨‹¬ SoundS s›, rfl, rfl, rfl⟩, hS.nl⟩
  refine zsk <| ztn <| zsr ?_
  refine zlv (xfb 2 fd_36_2) ?_
  have hsd : SoundS s := by first | assumption | exact Classical.not_not.1 ‹_›
  obtain ⟨⟨d1, d2⟩, ⟨d3, d4⟩, d5⟩ := id hsd
  refine zlv (xlb 0 pl_3 hS) ?_
  refine zlv (xfb 3 fd_36_3) ?_
  refine zlv (xlb 0 pl_3 hS) ?_
  refine zlc (xc0 cl_65) (c_gcd (x := s.val) (y := s.den) w (by omega) (by omega)) ?_; rintro _ w ⟨rfl, hS'⟩
  replace hS := hS.cmp hS'; clear hS'
  refine zlv xas ?_
  have hgp := gcd_pos1 (x := s.val) (y := s.den) (by omega) (by omega)
  have hq1 := tdiv_abs (a := s.val) (d := (Int.gcd s.val s.den : Int)) (A := 9223372036854775807) hgp (by omega)
  have hq2 := tdiv_abs (a := s.den) (d := (Int.gcd s.val s.den : Int)) (A := 9223372036854775807) hgp (by omega)
  refine zlt <| zsq ?_
  refine zdst [0, 1] [0] 9 mx_ hS ?_; clear hS; intro w hS
  refine zdv 0 (fun _ => (xfb 2 fd_36_2)) ?_
  refine zdla 1 (fun w hS => (xlb 0 pl_3 hS)) ?_
  refine zdv 2 (fun _ => xmv) ?_
  refine zdv 3 (fun _ => (xquo (r := (Int.tdiv s.val (Int.gcd s.val s.den : Int))))) ?_
  refine zdv 4 (fun _ => (xfb 3 fd_36_3)) ?_
  refine zdla 5 (fun w hS => (xlb 0 pl_3 hS)) ?_
  refine zdv 6 (fun _ => xmv) ?_
  refine zdv 7 (fun _ => (xquo (r := (Int.tdiv s.den (Int.gcd s.val s.den : Int))))) ?_
  refine zdv 8 (fun _ => (xany (v := .agg #[.int .i64 (Int.tdiv s.val (Int.gcd s.val s.den : Int)), .int .i64 (Int.tdiv s.den (Int.gcd s.val s.den : Int))]))) ?_
  refine zde 9 (xsw 1 st_65 hS) ?_; clear hS; rintro w hS
  replace hS := hS.n2
  refine ⟨⟨fun h => absurd h (by decide), hS.pk [0]⟩, ?_⟩
  refine zdv 10 (fun _ => xas) ?_
  refine zdd <| ztn <| zrt <| zfct 1 st_65 hS ⟨_, rfl, ?_⟩
  exact ⟨_, _, 0, rfl, .inr ⟨hsd, rfl, rfl, rfl⟩, hS.nl⟩
end Go.Proofs.Ytopmifmfecfaaaa
namespace Go.Proofs.Gw
open Go Go.RowKit
theorem ucells_at (pv : Int → Value) (cnt : Int → Int) {k i : Int} (h : k = 2 * i) : ∀ (j : Nat) u, [pv i, Value.int .i64 (cnt i)][j]? = some u → ucells pv cnt (k + j) = u := fun j u hu => by
  rcases j with _ | _ | j
  · cases hu; exact ucells0 pv cnt (by omega)
  · cases hu; exact ucells1 pv cnt (by omega)
  · simp at hu
theorem ucells_one {pv : Int → Value} {cnt : Int → Int} (h : ∀ i, (pv i).oneCell' = true) (k : Int) : (ucells pv cnt k).oneCell' = true := by
  unfold ucells
  split
  · exact h _
  · rfl
theorem cat_ucells (pv : Int → Value) (cnt : Int → Int) (n : Int) (r : Value) (x : Int) : cat (n * 2) (ucells pv cnt) (ucells (fun _ => r) (fun _ => x)) = ucells (gsn pv n r) (snoc cnt n x) := by
  funext k
  unfold cat ucells gsn snoc
  by_cases h : k < n * 2
  · have h2 : k / 2 < n := by omega
    simp only [if_pos h, if_pos h2]
  · have h2 : ¬ k / 2 < n := by omega
    simp only [if_neg h, if_neg h2]
    by_cases e : k % 2 = 0
    · rw [if_pos e, if_pos (by omega)]
    · rw [if_neg e, if_neg (by omega)]
theorem upd_ucells1 (pv : Int → Value) (cnt : Int → Int) {k i x : Int} (h : k = 2 * i + 1) : upd (ucells pv cnt) k (.int .i64 x) = ucells pv (upd cnt i x) := by
  funext j; unfold upd ucells; dsimp only
  by_cases e : j = k
  · rw [if_pos e, if_neg (by omega), if_pos (by omega)]
  · rw [if_neg e]
    by_cases e0 : j % 2 = 0
    · rw [if_pos e0, if_pos e0]
    · rw [if_neg e0, if_neg e0, if_neg (by omega)]
structure VAt (w : World) (v : Value) (n : Int) (pv : Int → Value) (ln : Int → Int) (pt : Int → Int → Int) (cnt : Int → Int) : Prop where
  row : Row w v 2 n (ucells pv cnt)
  p : ∀ i, 0 ≤ i → i < n → Row w (pv i) 1 (ln i) (ints (pt i))
  room : ∀ i, 0 ≤ i → i < n → Roomy (pv i)
theorem VAt.below {w w' : World} {v : Value} {n : Int} {pv : Int → Value} {ln : Int → Int} {pt : Int → Int → Int} {cnt : Int → Int} (h : VAt w v n pv ln pt cnt) (hb : Below w.heap.size w w') : VAt w' v n pv ln pt cnt :=
  ⟨h.row.below hb, fun i h0 h1 => (h.p i h0 h1).below hb, h.room⟩
def SameP (n n2 : Int) (ln ln2 : Int → Int) (pt pt2 : Int → Int → Int) (cnt cnt2 : Int → Int) : Prop := n = n2 ∧ ∀ k, 0 ≤ k → k < n → cnt k = cnt2 k ∧ ln k = ln2 k ∧ ∀ j, 0 ≤ j → j < ln k → pt k j = pt2 k j
end Go.Proofs.Gw
namespace Go.Proofs.Ytopmifmfecfaaaa
open Go Go.RowKit Go.Proofs.Gw
theorem cl_29 : calledT Try.prog 29 = true := by kernel_rfl
theorem cl_62 : calledT Try.prog 62 = true := by kernel_rfl
theorem el_34 : elemT Try.prog 34 = some (.agg #[.slice none 0 0, .int .i64 0], 2, 32) := by kernel_rfl
theorem el_39 : elemT Try.prog 39 = some (.agg #[.slice none 0 0, .slice none 0 0, .int .i64 0, .int .i64 0], 4, 64) := by kernel_rfl
theorem el_50 : elemT Try.prog 50 = some (.agg #[.slice none 0 0, .int .i64 0], 2, 32) := by kernel_rfl
theorem sl_43 : sliceT Try.prog 43 = some (50, 2) := by kernel_rfl
theorem st_50 : structT Try.prog 50 = some 2 := by kernel_rfl
theorem st_52 : structT Try.prog 52 = some 4 := by kernel_rfl
def flN (s : So) : Nat → Int
  | 0 => 0
  | k + 1 => if s.den ≤ s.X k then flN s k + 1 else flN s k
def flL (s : So) (ml : Int → Int) : Nat → Int → Int
  | 0 => fun _ => 0
  | k + 1 => if s.den ≤ s.X k then gsn (flL s ml k) (flN s k) (ml k) else flL s ml k
def flG (s : So) (mf : Int → Int → Int) : Nat → Int → Int → Int
  | 0 => fun _ _ => 0
  | k + 1 => if s.den ≤ s.X k then gsn (flG s mf k) (flN s k) (mf k) else flG s mf k
def flC (s : So) : Nat → Int → Int
  | 0 => fun _ => 0
  | k + 1 => if s.den ≤ s.X k then snoc (flC s k) (flN s k) ((s.X k).tdiv s.den) else flC s k
theorem flN_next (s : So) {i : Int} (h : 0 ≤ i) : flN s (i + 1).toNat = if s.den ≤ s.X i then flN s i.toNat + 1 else flN s i.toNat := by
  obtain ⟨k, rfl⟩ := Int.eq_ofNat_of_zero_le h; rw [show ((k : Int) + 1).toNat = k + 1 by omega, Int.toNat_natCast]; rfl
theorem flL_next (s : So) (ml : Int → Int) {i : Int} (h : 0 ≤ i) : flL s ml (i + 1).toNat = if s.den ≤ s.X i then gsn (flL s ml i.toNat) (flN s i.toNat) (ml i) else flL s ml i.toNat := by
  obtain ⟨k, rfl⟩ := Int.eq_ofNat_of_zero_le h; rw [show ((k : Int) + 1).toNat = k + 1 by omega, Int.toNat_natCast]; rfl
theorem flG_next (s : So) (mf : Int → Int → Int) {i : Int} (h : 0 ≤ i) : flG s mf (i + 1).toNat = if s.den ≤ s.X i then gsn (flG s mf i.toNat) (flN s i.toNat) (mf i) else flG s mf i.toNat := by
  obtain ⟨k, rfl⟩ := Int.eq_ofNat_of_zero_le h; rw [show ((k : Int) + 1).toNat = k + 1 by omega, Int.toNat_natCast]; rfl
theorem flC_next (s : So) {i : Int} (h : 0 ≤ i) : flC s (i + 1).toNat = if s.den ≤ s.X i then snoc (flC s i.toNat) (flN s i.toNat) ((s.X i).tdiv s.den) else flC s i.toNat := by
  obtain ⟨k, rfl⟩ := Int.eq_ofNat_of_zero_le h; rw [show ((k : Int) + 1).toNat = k + 1 by omega, Int.toNat_natCast]; rfl
theorem flN_rng (s : So) : ∀ k : Nat, 0 ≤ flN s k ∧ flN s k ≤ k
  | 0 => by simp [flN]
  | k + 1 => by
    have := flN_rng s k
    simp only [flN]; split <;> omega
def FloorR (s : So) (u : Int) (ml : Int → Int) (mf : Int → Int → Int) (n : Int) (ln : Int → Int) (pt : Int → Int → Int) (cnt : Int → Int) (e : Int) : Prop :=
  (¬ (SoundS s ∧ u = s.n) ∧ n = 0 ∧ e = 1) ∨ (SoundS s ∧ u = s.n ∧ n = flN s u.toNat ∧ ln = flL s ml u.toNat ∧ pt = flG s mf u.toNat ∧ cnt = flC s u.toNat ∧ e = 0)
theorem FloorR.rng {s : So} {u : Int} {ml : Int → Int} {mf : Int → Int → Int} {n e : Int} {ln cnt : Int → Int} {pt : Int → Int → Int} (hu : 0 ≤ u) (h : FloorR s u ml mf n ln pt cnt e) : 0 ≤ n ∧ n ≤ u := by
  rcases h with ⟨_, h, _⟩ | ⟨_, _, h, _⟩
  · omega
  · have := flN_rng s u.toNat; omega
theorem FloorR.same {s : So} {u : Int} {ml : Int → Int} {mf : Int → Int → Int} {n n2 e e2 : Int} {ln ln2 cnt cnt2 : Int → Int} {pt pt2 : Int → Int → Int} (h : FloorR s u ml mf n ln pt cnt e) (h' : FloorR s u ml mf n2 ln2 pt2 cnt2 e2) : SameP n n2 ln ln2 pt pt2 cnt cnt2 ∧ e = e2 := by
  rcases h with ⟨h1, h2, h3⟩ | ⟨h1, h2, h3, h4, h5, h6, h7⟩ <;> rcases h' with ⟨g1, g2, g3⟩ | ⟨g1, g2, g3, g4, g5, g6, g7⟩
  · exact ⟨⟨by omega, fun k k0 k1 => by omega⟩, by omega⟩
  · exact absurd ⟨g1, g2⟩ h1
  · exact absurd ⟨h1, h2⟩ g1
  · rw [h3, h4, h5, h6, h7, g3, g4, g5, g6, g7]; exact ⟨⟨rfl, fun _ _ _ => ⟨rfl, rfl, fun _ _ _ => rfl⟩⟩, rfl⟩
set_option maxRecDepth 20000 in
theorem c_floor30 {vM : Value} {u : Int} {mv : Int → Value} {ml : Int → Int} {mf : Int → Int → Int} {vX vY : Value} {s : So} (w0 : World) (hM : MAt w0 vM u mv ml mf) (hX : Row w0 vX 1 s.n (ints s.X)) (hY : Row w0 vY 1 s.m (ints s.Y)) (hn60 : s.n ≤ 1000) (hml : ∀ k, 0 ≤ k → k < u → ml k ≤ 100000) :
    Calls Try.prog 14 [vM, .agg #[vX, vY, .int .i64 s.val, .int .i64 s.den]].toArray w0 fun e w => ∃ v, e = .returned v ∧ ∃ r n pv ln pt cnt e, v = .tuple #[r, .int .i64 e] ∧ FloorR s u ml mf n ln pt cnt e ∧ Slh r n ∧ Sat w0 w [.own r 2 50 n (ucells pv cnt), .sem (Frame.rows 3 n pv ln pt)] := by
  have hn := hX.slh.n0; have hn1 := hX.slh.n1
  have hu := hM.row.slh.n0; have hu1 := hM.row.slh.n1
  refine zenG Try.func14 Try.ntmps14 fun w hS => ?_
  refine zsr ?_
  refine zla (xbx (cs := [_, _, _, _]) hS) ?_; rintro _ w ⟨g1, rfl, hS⟩
  replace hS := hS.n1
  refine zs2 ?_
  refine zlt <| zsq <| zsr ?_
  refine zlv (xls 0 st_36 hS) ?_
  refine zlc (xc0 cl_43) (c_sound30 (s := s) w (hX.below hS.below) (hY.below hS.below) (by omega)) ?_; rintro _ w ⟨rfl, hS'⟩
  replace hS := hS.cmp hS'; clear hS'
  refine zs2 ?_
  refine zlb 12 ?_ ?_ <;> intro hc
  ·
   iterate 6 refine zlo ?_
   refine zlv xpt ?_
   refine zlt <| zct <| zsr ?_
   refine zs2 ?_
   refine zlt <| zrt <| ztr <| zf2 ⟨_, rfl, ?_⟩
   exact ⟨_, 0, fun _ => undef, fun _ => 0, fun _ _ => 0, fun _ => 0, 1, rfl, .inl ⟨by first | exact fun hh => absurd hh.1 ‹¬ SoundS s› | (rintro ⟨_, hh⟩; omega), rfl, rfl⟩, slh_nil, ((hS.sub (.cons _ .slnil)).addnil 2 50 (ucells (fun _ => undef) (fun _ => 0))).addrows 3 (fun _ => undef) (fun _ => 0) (fun _ _ => 0)⟩
  refine zlv xmv ?_
  refine zlv (xln sl_32 hM.row.slh) ?_
  refine zlv (xfb 0 fd_36_0) ?_
  refine zlv (xlb 0 pl_22 hS) ?_
  refine zlv (xln sl_22 hX.slh) ?_
  refine zs2 ?_
  refine zlt ?_
  refine zcif ?_ ?_ <;> intro hc
  ·
   refine zsr ?_
   refine zs2 ?_
   refine zlt <| zrt <| ztr <| zf2 ⟨_, rfl, ?_⟩
   exact ⟨_, 0, fun _ => undef, fun _ => 0, fun _ _ => 0, fun _ => 0, 1, rfl, .inl ⟨by first | exact fun hh => absurd hh.1 ‹¬ SoundS s› | (rintro ⟨_, hh⟩; omega), rfl, rfl⟩, slh_nil, ((hS.sub (.cons _ .slnil)).addnil 2 50 (ucells (fun _ => undef) (fun _ => 0))).addrows 3 (fun _ => undef) (fun _ => 0) (fun _ _ => 0)⟩
  refine zsk <| ztn <| zsr ?_
  refine zlv xas ?_
  refine zlt <| zsq <| zsr ?_
  refine zlv (xfb 0 fd_36_0) ?_
  refine zlv (xlb 0 pl_22 hS) ?_
  refine zlv (xln sl_22 hX.slh) ?_
  refine zlv xmv ?_
  refine zlt <| zbk ?_
  have hsd : SoundS s := by first | assumption | exact Classical.not_not.1 ‹_›
  obtain ⟨⟨d1, d2⟩, ⟨d3, d4⟩, d5⟩ := id hsd
  have hun : u = s.n := by omega
  replace hS := hS.addnil 2 50 (ucells (fun _ => Value.slice none 0 0) (fun _ => 0))
  replace hS := hS.n2
  replace hS := hS.addrows 3 (fun _ => Value.slice none 0 0) (fun _ => 0) (fun _ _ => 0)
  replace hS := hS.n3
  replace hS := hS.n3
  have hrs0 := fun k (k0 : 0 ≤ k) (k1 : k < 0) => hS.slhIn 2 rfl k0 k1
  refine zlp (fun mm M w => ∃ (nC : Int) (wv : Int → Value) (lC : Int → Int) (gC : Int → Int → Int) (cC : Int → Int) (i : Int) (wC : Value), mm = ((s.n - i).toNat) ∧ (0 ≤ i) ∧ (i ≤ s.n) ∧ (nC = flN s i.toNat) ∧ (lC = flL s ml i.toNat) ∧ (gC = flG s mf i.toNat) ∧ (cC = flC s i.toNat) ∧ (Slh wC nC) ∧ M = [(0, vM), (3, .pointer (some ⟨g1, 0, none⟩)), (4, .slice none 0 0), (5, .int .i64 0), (6, wC), (21, vX), (22, .int .i64 s.n), (23, .int .i64 i)] ∧ Sat w0 w [.blk g1 [vX, vY, .int .i64 s.val, .int .i64 s.den], .own wC 2 50 nC (ucells wv cC), .sem (Frame.rows 3 nC wv lC gC)]) ⟨0, (fun _ => Value.slice none 0 0), (fun _ => 0), (fun _ _ => 0), (fun _ => 0), 0, (.slice none 0 0), rfl, (by omega), (by omega), ?_, ?_, ?_, ?_, ?_, rfl, hS⟩ ?_
  ·
   rfl
  ·
   rfl
  ·
   rfl
  ·
   rfl
  ·
   exact slh_nil
  clear hS w
  rintro mm M w ⟨nC, wv, lC, gC, cC, i, wC, rfl, h0, h1, hnC, hlC, hgC, hcC, hwC, rfl, hS⟩
  have hrs1 := fun k (k0 : 0 ≤ k) (k1 : k < nC) => hS.slhIn 2 rfl k0 k1
  have hnr := flN_rng s i.toNat
  refine zsr ?_
  refine zlv xlss ?_
  refine zlt <| zsq ?_
  refine zcif ?_ ?_ <;> intro hc
  ·
   refine zsk <| ztn <| zsq <| zbk <| zsr ?_
   refine zlv xmv ?_
   refine zlv (xix (kk := i) sl_22 hX.slh) ?_
   refine zlv (xlr (u := .int .i64 (s.X i)) pl_3 (hX.below hS.below)) ?_
   refine zs2 ?_
   refine zlz ?_
   refine zlv xmv ?_
   refine zlv (xfb 3 fd_36_3) ?_
   refine zlv (xlb 0 pl_3 hS) ?_
   refine zlv xgeq ?_
   refine zlt ?_
   refine zcif ?_ ?_ <;> intro hc
   ·
    refine zdst [0] [0] 1000 mx_ hS ?_; clear hS; intro w hS
    refine zdv 0 (fun _ => xmv) ?_
    refine zdv 1 (fun _ => xmv) ?_
    refine zdv 2 (fun _ => xmv) ?_
    refine zdv 3 (fun _ => (xix (kk := i) sl_32 hM.row.slh)) ?_
    refine zdla 4 (fun w hS => (xlr (u := (mv i)) pl_22 (hM.row.below hS.below))) ?_
    have hmli := hml i h0 (by omega)
    refine zdv 6 (fun _ => xmv) ?_
    refine zdv 7 (fun _ => (xfb 3 fd_36_3)) ?_
    refine zdla 8 (fun w hS => (xlb 0 pl_3 hS)) ?_
    have hqd := tdiv_abs (a := s.X i) (d := s.den) (A := 1073741824) (by omega) (by have := d5 i h0 (by omega); omega)
    refine zdv 9 (fun _ => (xquo (r := (Int.tdiv (s.X i) s.den)))) ?_
    refine zdc 5 (xc0 cl_42) (c_clone (n := (ml i)) (f := (mf i)) w ((hM.p i (by omega) (by omega)).below hS.below) (by omega)) ?_; rintro vq1 w ⟨_, rfl, hslq1, hS'⟩
    replace hS : Sat w0 w [.blk g1 [vX, vY, .int .i64 s.val, .int .i64 s.den], .own wC 2 50 nC (ucells wv cC), .sem (Frame.rows 3 nC wv lC gC), .own vq1 1 3 (ml i) (ints (mf i))] := hS.comp hS'; clear hS'
    refine ⟨⟨fun _ => hS.pk [0], hS.pk [0]⟩, ?_⟩
    refine zdv 10 (fun _ => (xany (v := .agg #[vq1, .int .i64 (Int.tdiv (s.X i) s.den)]) (hr := by obtain ⟨_, _, _, _, rfl, _⟩ := hslq1; kernel_rfl))) ?_
    refine zda 11 (xli (n := 1) (len := 1) (pv := [(0, .agg #[vq1, .int .i64 (Int.tdiv (s.X i) s.den)])]) (cs := [vq1, .int .i64 (Int.tdiv (s.X i) s.den)]) (c := ucells (fun _ => vq1) (fun _ => (Int.tdiv (s.X i) s.den))) sl_43 el_50 hS (hf := by obtain ⟨_, _, _, _, rfl, _⟩ := hslq1; kernel_rfl)) ?_; rintro v1 w ⟨hS, hv1⟩
    replace hS := hS.n5
    refine ⟨⟨fun _ => hS.pk [0], hS.pk [0]⟩, ?_⟩
    refine zda 12 (xap 1 (r := nC + 1) sl_43 el_50 hS (hS.rowN 4 rfl) (cat_ucells _ _ _ _ _) (h1 := fun k _ _ => ucells_one (fun _ => hslq1.one) k)) ?_; rintro v2 w ⟨hS, hv2⟩
    replace hS := hS.n5
    replace hS := Sat.merge (l1 := [_, _]) (l2 := []) (l3 := [_]) hS (by omega)
    have hrs2 := fun k (k0 : 0 ≤ k) (k1 : k < nC + 1) => hS.slhIn 2 rfl k0 k1
    replace hS := hS.n4
    refine ⟨⟨fun _ => hS.pk [0], hS.pk [0]⟩, ?_⟩
    refine zdv 13 (fun _ => xas) ?_
    refine zdd <| zbn <| ztn <| zrg ?_
    refine zlv (xadd (r := i + 1)) ?_
    refine zlv xmv ?_
    refine zln <| zlq ⟨nC + 1, gsn wv nC vq1, gsn lC nC (ml i), gsn gC nC (mf i), (snoc cC nC (Int.tdiv (s.X i) s.den)), i + 1, v2, rfl, (by omega), (by omega), ?_, ?_, ?_, ?_, ?_, rfl, hS.pk [0, 1, 2]⟩
    ·
     rw [flN_next s h0, ← hnC]; first | rw [if_pos (by omega)] | rw [if_neg (by omega)]
    ·
     rw [flL_next s ml h0, ← hlC, ← hnC]; first | rw [if_pos (by omega)] | rw [if_neg (by omega)]
    ·
     rw [flG_next s mf h0, ← hgC, ← hnC]; first | rw [if_pos (by omega)] | rw [if_neg (by omega)]
    ·
     rw [flC_next s h0, ← hcC, ← hnC]; first | rw [if_pos (by omega)] | rw [if_neg (by omega)]
    ·
     exact hv2
   refine zsk <| zbn <| ztn <| zrg ?_
   refine zlv (xadd (r := i + 1)) ?_
   refine zlv xmv ?_
   refine zln <| zlq ⟨nC, wv, lC, gC, cC, i + 1, wC, rfl, (by omega), (by omega), ?_, ?_, ?_, ?_, ?_, rfl, hS⟩
   ·
    rw [flN_next s h0, ← hnC]; first | rw [if_pos (by omega)] | rw [if_neg (by omega)]
   ·
    rw [flL_next s ml h0, ← hlC, ← hnC]; first | rw [if_pos (by omega)] | rw [if_neg (by omega)]
   ·
    rw [flG_next s mf h0, ← hgC, ← hnC]; first | rw [if_pos (by omega)] | rw [if_neg (by omega)]
   ·
    rw [flC_next s h0, ← hcC, ← hnC]; first | rw [if_pos (by omega)] | rw [if_neg (by omega)]
   ·
    exact hwC
  refine zxt <| ztx <| ztx <| zbh <| ztn <| zsr ?_
  refine zs3 ?_
  refine zlt <| zrt <| zf2 ⟨_, rfl, ?_⟩
  have him : i = u := by omega
  rw [him] at hnC hlC hgC hcC
  exact ⟨_, _, _, _, _, _, 0, rfl, .inr ⟨hsd, hun, hnC, hlC, hgC, hcC, rfl⟩, hwC, hS.pk [1, 2]⟩
set_option maxRecDepth 20000 in
theorem c_rfloor30 {vM : Value} {u : Int} {mv : Int → Value} {ml : Int → Int} {mf : Int → Int → Int} {vX vY : Value} {s : So} (w0 : World) (hM : MAt w0 vM u mv ml mf) (hX : Row w0 vX 1 s.n (ints s.X)) (hY : Row w0 vY 1 s.m (ints s.Y)) (hu60 : u ≤ 1000) (hml : ∀ k, 0 ≤ k → k < u → ml k ≤ 100000) :
    Calls Try.prog 54 [vM, .agg #[vX, vY, .int .i64 s.val, .int .i64 s.den]].toArray w0 fun e w => ∃ v, e = .returned v ∧ ∃ r n pv ln pt cnt e, v = .tuple #[r, .int .i64 e] ∧ FloorR s u ml mf n ln pt cnt e ∧ Slh r n ∧ Sat w0 w [.own r 2 34 n (ucells pv cnt), .sem (Frame.rows 3 n pv ln pt)] := by
  have hn := hX.slh.n0; have hn1 := hX.slh.n1
  have hu := hM.row.slh.n0; have hu1 := hM.row.slh.n1
  refine zenG Try.func54 Try.ntmps54 fun w hS => ?_
  refine zsr ?_
  refine zla (xbx (cs := [_, _, _, _]) hS) ?_; rintro _ w ⟨g1, rfl, hS⟩
  replace hS := hS.n1
  refine zs2 ?_
  refine zlt <| zsq <| zsr ?_
  refine zlv (xls 0 st_52 hS) ?_
  refine zlc (xc0 cl_62) (c_rsound30 (s := s) w (hX.below hS.below) (hY.below hS.below)) ?_; rintro _ w ⟨rfl, hS'⟩
  replace hS := hS.cmp hS'; clear hS'
  refine zs2 ?_
  refine zlb 11 ?_ ?_ <;> intro hc
  ·
   iterate 6 refine zlo ?_
   refine zlv xpt ?_
   refine zlt <| zct <| zsr ?_
   refine zs2 ?_
   refine zlt <| zrt <| ztr <| zf2 ⟨_, rfl, ?_⟩
   exact ⟨_, 0, fun _ => undef, fun _ => 0, fun _ _ => 0, fun _ => 0, 1, rfl, .inl ⟨by first | exact fun hh => absurd hh.1 ‹¬ SoundS s› | (rintro ⟨_, hh⟩; omega), rfl, rfl⟩, slh_nil, ((hS.sub (.cons _ .slnil)).addnil 2 34 (ucells (fun _ => undef) (fun _ => 0))).addrows 3 (fun _ => undef) (fun _ => 0) (fun _ _ => 0)⟩
  refine zlv xmv ?_
  refine zlv (xln sl_32 hM.row.slh) ?_
  refine zlv (xfb 0 fd_52_0) ?_
  refine zlv (xlb 0 pl_22 hS) ?_
  refine zlv (xln sl_22 hX.slh) ?_
  refine zs2 ?_
  refine zlt ?_
  refine zcif ?_ ?_ <;> intro hc
  ·
   refine zsr ?_
   refine zs2 ?_
   refine zlt <| zrt <| ztr <| zf2 ⟨_, rfl, ?_⟩
   exact ⟨_, 0, fun _ => undef, fun _ => 0, fun _ _ => 0, fun _ => 0, 1, rfl, .inl ⟨by first | exact fun hh => absurd hh.1 ‹¬ SoundS s› | (rintro ⟨_, hh⟩; omega), rfl, rfl⟩, slh_nil, ((hS.sub (.cons _ .slnil)).addnil 2 34 (ucells (fun _ => undef) (fun _ => 0))).addrows 3 (fun _ => undef) (fun _ => 0) (fun _ _ => 0)⟩
  refine zsk <| ztn <| zsr ?_
  refine zlv xas ?_
  refine zlt <| zsq <| zsr ?_
  refine zlv xas ?_
  refine zlt <| zbk ?_
  have hsd : SoundS s := by first | assumption | exact Classical.not_not.1 ‹_›
  obtain ⟨⟨d1, d2⟩, ⟨d3, d4⟩, d5⟩ := id hsd
  have hun : u = s.n := by omega
  replace hS := hS.addnil 2 34 (ucells (fun _ => Value.slice none 0 0) (fun _ => 0))
  replace hS := hS.n2
  replace hS := hS.addrows 3 (fun _ => Value.slice none 0 0) (fun _ => 0) (fun _ _ => 0)
  replace hS := hS.n3
  replace hS := hS.n3
  have hrs0 := fun k (k0 : 0 ≤ k) (k1 : k < 0) => hS.slhIn 2 rfl k0 k1
  refine zlp (fun mm M w => ∃ (nC : Int) (wv : Int → Value) (lC : Int → Int) (gC : Int → Int → Int) (cC : Int → Int) (i : Int) (wC : Value), mm = ((u - i).toNat) ∧ (0 ≤ i) ∧ (i ≤ u) ∧ (nC = flN s i.toNat) ∧ (lC = flL s ml i.toNat) ∧ (gC = flG s mf i.toNat) ∧ (cC = flC s i.toNat) ∧ (Slh wC nC) ∧ M = [(0, vM), (3, .pointer (some ⟨g1, 0, none⟩)), (4, .slice none 0 0), (5, .int .i64 0), (6, wC), (7, .int .i64 i)] ∧ Sat w0 w [.blk g1 [vX, vY, .int .i64 s.val, .int .i64 s.den], .own wC 2 34 nC (ucells wv cC), .sem (Frame.rows 3 nC wv lC gC)]) ⟨0, (fun _ => Value.slice none 0 0), (fun _ => 0), (fun _ _ => 0), (fun _ => 0), 0, (.slice none 0 0), rfl, (by omega), (by omega), ?_, ?_, ?_, ?_, ?_, rfl, hS⟩ ?_
  ·
   rfl
  ·
   rfl
  ·
   rfl
  ·
   rfl
  ·
   exact slh_nil
  clear hS w
  rintro mm M w ⟨nC, wv, lC, gC, cC, i, wC, rfl, h0, h1, hnC, hlC, hgC, hcC, hwC, rfl, hS⟩
  have hrs1 := fun k (k0 : 0 ≤ k) (k1 : k < nC) => hS.slhIn 2 rfl k0 k1
  have hnr := flN_rng s i.toNat
  refine zsq <| zsr ?_
  refine zs2 ?_
  refine zlv (xln sl_32 hM.row.slh) ?_
  refine zlv xlss ?_
  refine zlt ?_
  refine zcif ?_ ?_ <;> intro hc
  ·
   refine zsk <| ztn <| zsq <| zbk <| zsq ?_
   refine zdst [0, 1, 2] [0, 1, 2] 1000 mx_ hS ?_; clear hS; intro w hS
   refine zdv 0 (fun _ => (xfb 0 fd_52_0)) ?_
   refine zdla 1 (fun w hS => (xlb 0 pl_22 hS)) ?_
   refine zdv 2 (fun _ => xmv) ?_
   refine zdv 3 (fun _ => (xix (kk := i) sl_22 hX.slh)) ?_
   refine zdla 4 (fun w hS => (xlr (u := .int .i64 (s.X i)) pl_3 (hX.below hS.below))) ?_
   refine zdv 5 (fun _ => (xfb 3 fd_52_3)) ?_
   refine zdla 6 (fun w hS => (xlb 0 pl_3 hS)) ?_
   refine zdv 7 (fun _ => xgeq) ?_
   refine zdd <| ztn ?_
   refine zcif ?_ ?_ <;> intro hc
   ·
    refine zdst [0] [0] 1000 mx_ hS ?_; clear hS; intro w hS
    refine zdv 0 (fun _ => xmv) ?_
    refine zdv 2 (fun _ => xmv) ?_
    refine zdv 3 (fun _ => xmv) ?_
    refine zdv 4 (fun _ => (xix (kk := i) sl_32 hM.row.slh)) ?_
    refine zdla 5 (fun w hS => (xlr (u := (mv i)) pl_22 (hM.row.below hS.below))) ?_
    have hmli := hml i h0 (by omega)
    refine zdv 7 (fun _ => (xfb 0 fd_52_0)) ?_
    refine zdla 8 (fun w hS => (xlb 0 pl_22 hS)) ?_
    refine zdv 9 (fun _ => xmv) ?_
    refine zdv 10 (fun _ => (xix (kk := i) sl_22 hX.slh)) ?_
    refine zdla 11 (fun w hS => (xlr (u := .int .i64 (s.X i)) pl_3 (hX.below hS.below))) ?_
    have hqd := tdiv_abs (a := s.X i) (d := s.den) (A := 1073741824) (by omega) (by have := d5 i h0 (by omega); omega)
    refine zdv 12 (fun _ => (xfb 3 fd_52_3)) ?_
    refine zdla 13 (fun w hS => (xlb 0 pl_3 hS)) ?_
    refine zdv 14 (fun _ => (xquo (r := (Int.tdiv (s.X i) s.den)))) ?_
    refine zda 1 (xl0 (c := ints (mf i)) sl_22 hS) ?_; rintro v1 w ⟨hS, hv1⟩
    replace hS := hS.n4
    refine ⟨⟨fun _ => hS.pk [0], hS.pk [0]⟩, ?_⟩
    refine zda 6 (xap 3 (r := (ml i)) (f := ints (mf i)) sl_22 el_3 hS ((hM.p i (by omega) (by omega)).below hS.below) (by exact cat_self _ _)) ?_; rintro v2 w ⟨hS, hv2⟩
    replace hS := hS.n4
    refine ⟨⟨fun _ => hS.pk [0], hS.pk [0]⟩, ?_⟩
    refine zdv 15 (fun _ => (xany (v := .agg #[v2, .int .i64 (Int.tdiv (s.X i) s.den)]) (hr := by obtain ⟨_, _, _, _, rfl, _⟩ := hv2; kernel_rfl))) ?_
    refine zda 16 (xli (n := 1) (len := 1) (pv := [(0, .agg #[v2, .int .i64 (Int.tdiv (s.X i) s.den)])]) (cs := [v2, .int .i64 (Int.tdiv (s.X i) s.den)]) (c := ucells (fun _ => v2) (fun _ => (Int.tdiv (s.X i) s.den))) sl_25 el_34 hS (hf := by obtain ⟨_, _, _, _, rfl, _⟩ := hv2; kernel_rfl)) ?_; rintro v3 w ⟨hS, hv3⟩
    replace hS := hS.n5
    refine ⟨⟨fun _ => hS.pk [0], hS.pk [0]⟩, ?_⟩
    refine zda 17 (xap 1 (r := nC + 1) sl_25 el_34 hS (hS.rowN 4 rfl) (cat_ucells _ _ _ _ _) (h1 := fun k _ _ => ucells_one (fun _ => hv2.one) k)) ?_; rintro v4 w ⟨hS, hv4⟩
    replace hS := hS.n5
    replace hS := Sat.merge (l1 := [_, _]) (l2 := []) (l3 := [_]) hS (by omega)
    have hrs2 := fun k (k0 : 0 ≤ k) (k1 : k < nC + 1) => hS.slhIn 2 rfl k0 k1
    replace hS := hS.n4
    refine ⟨⟨fun _ => hS.pk [0], hS.pk [0]⟩, ?_⟩
    refine zdv 18 (fun _ => xas) ?_
    refine zdd <| zbn <| ztn <| zrg ?_
    refine zlv xmv ?_
    refine zlv (xadd (r := i + 1)) ?_
    refine zlv xas ?_
    refine zln <| zlq ⟨nC + 1, gsn wv nC v2, gsn lC nC (ml i), gsn gC nC (mf i), (snoc cC nC (Int.tdiv (s.X i) s.den)), i + 1, v4, rfl, (by omega), (by omega), ?_, ?_, ?_, ?_, ?_, rfl, hS.pk [0, 1, 2]⟩
    ·
     rw [flN_next s h0, ← hnC]; first | rw [if_pos (by omega)] | rw [if_neg (by omega)]
    ·
     rw [flL_next s ml h0, ← hlC, ← hnC]; first | rw [if_pos (by omega)] | rw [if_neg (by omega)]
    ·
     rw [flG_next s mf h0, ← hgC, ← hnC]; first | rw [if_pos (by omega)] | rw [if_neg (by omega)]
    ·
     rw [flC_next s h0, ← hcC, ← hnC]; first | rw [if_pos (by omega)] | rw [if_neg (by omega)]
    ·
     exact hv4
   refine zsk <| zbn <| ztn <| zrg ?_
   refine zlv xmv ?_
   refine zlv (xadd (r := i + 1)) ?_
   refine zlv xas ?_
   refine zln <| zlq ⟨nC, wv, lC, gC, cC, i + 1, wC, rfl, (by omega), (by omega), ?_, ?_, ?_, ?_, ?_, rfl, hS⟩
   ·
    rw [flN_next s h0, ← hnC]; first | rw [if_pos (by omega)] | rw [if_neg (by omega)]
   ·
    rw [flL_next s ml h0, ← hlC, ← hnC]; first | rw [if_pos (by omega)] | rw [if_neg (by omega)]
   ·
    rw [flG_next s mf h0, ← hgC, ← hnC]; first | rw [if_pos (by omega)] | rw [if_neg (by omega)]
   ·
    rw [flC_next s h0, ← hcC, ← hnC]; first | rw [if_pos (by omega)] | rw [if_neg (by omega)]
   ·
    exact hwC
  refine zxt <| ztx <| ztx <| zbh <| ztn <| zsr ?_
  refine zs3 ?_
  refine zlt <| zrt <| zf2 ⟨_, rfl, ?_⟩
  have him : i = u := by omega
  rw [him] at hnC hlC hgC hcC
  exact ⟨_, _, _, _, _, _, 0, rfl, .inr ⟨hsd, hun, hnC, hlC, hgC, hcC, rfl⟩, hwC, hS.pk [1, 2]⟩
def FracR (s : So) (k : Int) (ok : Prop) : Prop := (¬ SoundS s ∧ k = 0 ∧ ¬ ok) ∨ (SoundS s ∧ (∀ j, 0 ≤ j → j < s.n → (s.X j).tmod s.den = 0) ∧ k = 0 ∧ ¬ ok) ∨ (SoundS s ∧ 0 ≤ k ∧ k < s.n ∧ (s.X k).tmod s.den ≠ 0 ∧ (∀ j, 0 ≤ j → j < k → (s.X j).tmod s.den = 0) ∧ ok)
theorem FracR.same {s : So} {k k2 : Int} {ok ok2 : Prop} (h : FracR s k ok) (h' : FracR s k2 ok2) : k = k2 ∧ (ok ↔ ok2) := by
  rcases h with ⟨h1, h2, h3⟩ | ⟨h1, h2, h3, h4⟩ | ⟨h1, h2, h3, h4, h5, h6⟩ <;> rcases h' with ⟨g1, g2, g3⟩ | ⟨g1, g2, g3, g4⟩ | ⟨g1, g2, g3, g4, g5, g6⟩ <;>
    first
    | exact absurd ‹SoundS s› ‹¬ SoundS s›
    | exact ⟨by omega, fun h => absurd h ‹¬ ok›, fun h => absurd h ‹¬ ok2›⟩
    | exact absurd (g2 k (by omega) (by omega)) (by assumption)
    | exact absurd (h2 k2 (by omega) (by omega)) (by assumption)
    | (refine ⟨?_, fun _ => g6, fun _ => h6⟩
       rcases Int.lt_trichotomy k k2 with h | h | h
       · exact absurd (g5 k (by omega) h) h4
       · exact h
       · exact absurd (h5 k2 (by omega) h) g4)
set_option maxRecDepth 20000 in
theorem c_splan {vV : Value} {n : Int} {pv : Int → Value} {ln : Int → Int} {pt : Int → Int → Int} {cnt : Int → Int} {vV2 : Value} {n2 : Int} {pv2 : Int → Value} {ln2 : Int → Int} {pt2 : Int → Int → Int} {cnt2 : Int → Int} (w0 : World) (hV : VAt w0 vV n pv ln pt cnt) (hV2 : VAt w0 vV2 n2 pv2 ln2 pt2 cnt2) :
    Calls Try.prog 60 [vV, vV2].toArray w0 fun e w => ∃ v, e = .returned v ∧ v = B (SameP n n2 ln ln2 pt pt2 cnt cnt2) ∧ Sat w0 w [] := by
  have hn := hV.row.slh.n0; have hn1 := hV.row.slh.n1
  have hm1 := hV2.row.slh.n1
  refine zenG Try.func60 Try.ntmps60 fun w hS => ?_
  refine zsr ?_
  refine zlv xas ?_
  refine zlt <| zsq <| zsr ?_
  refine zlv xmv ?_
  refine zlv (xln sl_25 hV.row.slh) ?_
  refine zlv xmv ?_
  refine zlv (xln sl_25 hV2.row.slh) ?_
  refine zlv xneq ?_
  refine zlt ?_
  refine zcif ?_ ?_ <;> intro hc
  ·
   refine zsr ?_
   refine zlv xas ?_
   refine zlt <| zrt <| ztr <| zf1 ⟨_, rfl, ?_⟩
   exact ⟨false_B (by rintro ⟨h1, h2⟩; first | omega | (obtain ⟨g1, g2⟩ := h2 i h0 (by omega); first | omega | exact absurd g2 ‹_›)), hS⟩
  refine zsk <| ztn <| zsq <| zsr ?_
  refine zlv xas ?_
  refine zlt <| zbk <| zlp (fun mm M w => ∃ (i : Int), mm = ((n - i).toNat) ∧ (0 ≤ i) ∧ (i ≤ n) ∧ (∀ k, 0 ≤ k → k < i → cnt k = cnt2 k ∧ ln k = ln2 k ∧ ∀ j, 0 ≤ j → j < ln k → pt k j = pt2 k j) ∧ M = [(0, vV), (1, vV2), (5, .int .i64 i)] ∧ Sat w0 w []) ⟨0, rfl, (by omega), (by omega), ?_, rfl, hS⟩ ?_
  ·
   intro k k0 k1; omega
  clear hS w
  rintro mm M w ⟨i, rfl, h0, h1, hall, rfl, hS⟩
  refine zsq <| zsr ?_
  refine zs2 ?_
  refine zlv (xln sl_25 hV.row.slh) ?_
  refine zlv xlss ?_
  refine zlt ?_
  refine zcif ?_ ?_ <;> intro hc
  ·
   refine zsk <| ztn <| zsq <| zbk <| zsq ?_
   refine zdst [] [] 1000 mx_ hS ?_; clear hS; intro w hS
   refine zdv 0 (fun _ => xmv) ?_
   refine zdv 1 (fun _ => xmv) ?_
   refine zdv 2 (fun _ => (xix (kk := 2 * i) sl_25 hV.row.slh)) ?_
   refine zdv 3 (fun _ => (xfc (kk := 2 * i + 1) fd_34_1 hV.row.slh)) ?_
   refine zdla 4 (fun w hS => (xlr (u := .int .i64 (cnt i)) pl_3 (hV.row.below hS.below) (e := (ucells1 pv cnt (by omega))))) ?_
   refine zdv 5 (fun _ => xmv) ?_
   refine zdv 6 (fun _ => xmv) ?_
   refine zdv 7 (fun _ => (xix (kk := 2 * i) sl_25 hV2.row.slh)) ?_
   refine zdv 8 (fun _ => (xfc (kk := 2 * i + 1) fd_34_1 hV2.row.slh)) ?_
   refine zdla 9 (fun w hS => (xlr (u := .int .i64 (cnt2 i)) pl_3 (hV2.row.below hS.below) (e := (ucells1 pv2 cnt2 (by omega))))) ?_
   refine zdv 10 (fun _ => xneq) ?_
   refine zdv 11 (fun _ => xmv) ?_
   refine zdb 28 ?_ ?_ <;> intro hc
   ·
    refine zdof 12 ?_
    refine zdof 13 ?_
    refine zdof 14 ?_
    refine zdof 15 ?_
    refine zdof 16 ?_
    refine zdof 17 ?_
    refine zdof 18 ?_
    refine zdof 19 ?_
    refine zdof 20 ?_
    refine zdof 21 ?_
    refine zdof 22 ?_
    refine zdof 23 ?_
    refine zdv 24 (fun _ => xpt) ?_
    refine zdd <| ztn <| zct <| zsr ?_
    refine zlv xas ?_
    refine zlt <| zrt <| zbr <| ztr <| ztr <| zbr <| ztr <| zf1 ⟨_, rfl, ?_⟩
    exact ⟨false_B (by rintro ⟨h1, h2⟩; first | omega | (obtain ⟨g1, g2⟩ := h2 i h0 (by omega); first | omega | exact absurd g2 ‹_›)), hS⟩
   refine zdv 12 (fun _ => xmv) ?_
   refine zdv 13 (fun _ => xmv) ?_
   refine zdv 14 (fun _ => (xix (kk := 2 * i) sl_25 hV.row.slh)) ?_
   refine zdv 15 (fun _ => (xfc (kk := 2 * i) fd_34_0 hV.row.slh)) ?_
   refine zdla 16 (fun w hS => (xlr (u := (pv i)) pl_22 (hV.row.below hS.below) (e := (ucells0 pv cnt (by omega))))) ?_
   refine zdv 17 (fun _ => xmv) ?_
   refine zdv 18 (fun _ => xmv) ?_
   refine zdv 19 (fun _ => (xix (kk := 2 * i) sl_25 hV2.row.slh)) ?_
   refine zdv 20 (fun _ => (xfc (kk := 2 * i) fd_34_0 hV2.row.slh)) ?_
   refine zdla 21 (fun w hS => (xlr (u := (pv2 i)) pl_22 (hV2.row.below hS.below) (e := (ucells0 pv2 cnt2 (by omega))))) ?_
   refine zdc 22 (xc0 cl_66) (c_same28 (n := (ln i)) (m := (ln2 i)) (f := (pt i)) (g := (pt2 i)) w ((hV.p i (by omega) (by omega)).below hS.below) ((hV2.p i (by omega) (by omega)).below hS.below)) ?_; rintro _ w ⟨rfl, hS'⟩
   replace hS := hS.cmp hS'; clear hS'
   refine ⟨⟨fun _ => hS, hS⟩, ?_⟩
   refine zdv 23 (fun _ => xnot) ?_
   refine zdv 24 (fun _ => xpf) ?_
   refine zdd <| ztn ?_
   refine zcif ?_ ?_ <;> intro hc
   ·
    refine zsr ?_
    refine zlv xas ?_
    refine zlt <| zrt <| zbr <| ztr <| ztr <| zbr <| ztr <| zf1 ⟨_, rfl, ?_⟩
    exact ⟨false_B (by rintro ⟨h1, h2⟩; first | omega | (obtain ⟨g1, g2⟩ := h2 i h0 (by omega); first | omega | exact absurd g2 ‹_›)), hS⟩
   refine zsk <| zbn <| ztn <| zrg ?_
   refine zlv xmv ?_
   refine zlv (xadd (r := i + 1)) ?_
   refine zlv xas ?_
   refine zln <| zlq ⟨i + 1, rfl, (by omega), (by omega), ?_, rfl, hS⟩
   ·
    have hq : (ln i) = (ln2 i) ∧ ∀ k, 0 ≤ k → k < (ln i) → (pt i) k = (pt2 i) k := by first | assumption | exact Classical.not_not.1 ‹_›
    intro k k0 k1; rcases Int.lt_or_eq_of_le (show k ≤ i by omega) with hk | hk
    · exact hall k k0 hk
    · rw [hk]; exact ⟨by omega, hq⟩
  refine zxt <| ztx <| ztx <| zbh <| ztn <| zsr ?_
  refine zlv xas ?_
  refine zlt <| zrt <| zf1 ⟨_, rfl, ?_⟩
  exact ⟨true_B ⟨by omega, fun k k0 k1 => hall k k0 (by omega)⟩, hS⟩
set_option maxRecDepth 20000 in
theorem c_theirs {vV : Value} {n : Int} {pv : Int → Value} {ln : Int → Int} {pt : Int → Int → Int} {cnt : Int → Int} (w0 : World) (hV : VAt w0 vV n pv ln pt cnt) (hn5 : n ≤ 100000) :
    Calls Try.prog 61 [vV].toArray w0 fun e w => ∃ v, e = .returned v ∧ ∃ r, v = r ∧ Slh r n ∧ Sat w0 w [.own r 2 34 n (ucells pv cnt)] := by
  have hn := hV.row.slh.n0; have hn1 := hV.row.slh.n1
  refine zenG Try.func61 Try.ntmps61 fun w hS => ?_
  refine zsr ?_
  refine zlv xas ?_
  refine zlz ?_
  refine zlv xas ?_
  refine zlt <| zsq <| zsr ?_
  refine zlv xmv ?_
  refine zlv (xln sl_43 hV.row.slh) ?_
  refine zlv xmv ?_
  refine zlt <| zbk ?_
  replace hS := hS.addnil 2 34 (ucells (fun _ => Value.slice none 0 0) (fun _ => 0))
  replace hS := hS.n1
  refine zlp (fun mm M w => ∃ (nC : Int) (wv : Int → Value) (cC : Int → Int) (i : Int) (wC : Value), mm = ((n - i).toNat) ∧ (0 ≤ i) ∧ (i ≤ n) ∧ (nC = i) ∧ (∀ k, 0 ≤ k → k < i → wv k = pv k) ∧ (∀ k, 0 ≤ k → k < i → cC k = cnt k) ∧ (Slh wC nC) ∧ M = [(2, .slice none 0 0), (3, wC), (6, vV), (7, .int .i64 n), (8, .int .i64 i)] ∧ Sat w0 w [.own wC 2 34 nC (ucells wv cC)]) ⟨0, (fun _ => Value.slice none 0 0), (fun _ => 0), 0, (.slice none 0 0), rfl, (by omega), (by omega), (by omega), ?_, ?_, ?_, rfl, hS⟩ ?_
  ·
   intro k k0 k1; omega
  ·
   intro k k0 k1; omega
  ·
   exact slh_nil
  clear hS w
  rintro mm M w ⟨nC, wv, cC, i, wC, rfl, h0, h1, hnC, hwv, hcC, hwC, rfl, hS⟩
  refine zsr ?_
  refine zlv xlss ?_
  refine zlt <| zsq ?_
  refine zcif ?_ ?_ <;> intro hc
  ·
   refine zsk <| ztn <| zsq <| zbk <| zsr ?_
   refine zlv (xix (kk := 2 * i) sl_43 hV.row.slh) ?_
   refine zlv (xlw (cs := [(pv i), .int .i64 (cnt i)]) st_50 (hV.row.below hS.below) (ucells_at (k := 2 * i) (i := i) pv cnt (by omega))) ?_
   refine zla (xal (cs := [_, _]) el_50 hS) ?_; rintro _ w ⟨g1, rfl, hS⟩
   replace hS := hS.n2
   refine zle (xsw 1 st_50 hS (hd := (ones_cons (hV.p i (by omega) (by omega)).slh.one (ones_cons rfl ones_nil)))) ?_; clear hS; rintro w hS
   replace hS := hS.n2
   refine zlt <| zrg ?_
   refine zlv xmv ?_
   refine zlv (xls 1 st_50 hS) ?_
   refine zla (xli (n := 1) (len := 1) (pv := [(0, .agg #[(pv i), .int .i64 (cnt i)])]) (cs := [(pv i), .int .i64 (cnt i)]) (c := ucells (fun _ => (pv i)) (fun _ => (cnt i))) sl_25 el_34 hS (hf := by have hz := (hV.p i (by omega) (by omega)).slh; revert hz; generalize (pv i) = z; rintro ⟨_, _, _, _, rfl, _⟩; show _ = _; kernel_rfl)) ?_; rintro v1 w ⟨hS, hv1⟩
   replace hS := hS.n3
   refine zla (xap 0 (r := nC + 1) sl_25 el_34 hS (hS.rowN 2 rfl) (cat_ucells _ _ _ _ _) (h1 := fun k _ _ => ucells_one (fun _ => (hV.p i (by omega) (by omega)).slh.one) k)) ?_; rintro v2 w ⟨hS, hv2⟩
   replace hS := hS.n3
   refine zlv xas ?_
   refine zln <| zbn <| ztn <| zrg ?_
   refine zlv (xadd (r := i + 1)) ?_
   refine zlv xmv ?_
   refine zln <| zlq ⟨nC + 1, (gsn wv nC (pv i)), (snoc cC nC (cnt i)), i + 1, v2, rfl, (by omega), (by omega), (by omega), ?_, ?_, ?_, rfl, hS.pk [0]⟩
   ·
    intro k k0 k1; by_cases e : k < nC
    · rw [gsn_lt e]; exact hwv k k0 (by omega)
    · rw [gsn_at e, show k = i by omega]
   ·
    intro k k0 k1; by_cases e : k < nC
    · rw [snoc_lt e]; exact hcC k k0 (by omega)
    · rw [snoc_at e, show k = i by omega]
   ·
    exact hv2
  refine zxt <| ztx <| ztx <| zbh <| ztn <| zsr ?_
  refine zs2 ?_
  refine zlt <| zrt <| zf1 ⟨_, rfl, ?_⟩
  obtain rfl : i = n := by omega
  subst hnC
  replace hS := hS.recont 0 rfl (d := ucells pv cnt) (fun k k0 k1 => by unfold ucells; rw [hwv _ (by omega) (by omega), hcC _ (by omega) (by omega)])
  exact ⟨_, rfl, hwC, hS⟩
end Go.Proofs.Ytopmifmfecfaaaa
namespace Go.Proofs.Gw
def PermOn (lo hi : Int) (a b : Int → Int) : Prop := ∃ p q : Int → Int, (∀ k, p (q k) = k ∧ q (p k) = k) ∧ (∀ k, ¬ (lo ≤ k ∧ k < hi) → p k = k) ∧ ∀ k, b k = a (p k)
theorem PermOn.refl (lo hi : Int) (a : Int → Int) : PermOn lo hi a a := ⟨id, id, fun _ => ⟨rfl, rfl⟩, fun _ _ => rfl, fun _ => rfl⟩
theorem PermOn.trans {lo hi : Int} {a b c : Int → Int} (h : PermOn lo hi a b) (k : PermOn lo hi b c) : PermOn lo hi a c := by
  obtain ⟨p, q, h1, h2, h3⟩ := h
  obtain ⟨p', q', k1, k2, k3⟩ := k
  refine ⟨fun x => p (p' x), fun x => q' (q x), fun x => ⟨?_, ?_⟩, fun x hx => ?_, fun x => ?_⟩
  · show p (p' (q' (q x))) = x
    rw [(k1 _).1, (h1 _).1]
  · show q' (q (p (p' x))) = x
    rw [(h1 _).2, (k1 _).2]
  · show p (p' x) = x
    rw [k2 x hx, h2 x hx]
  · rw [k3, h3]
theorem PermOn.mono {lo hi lo' hi' : Int} {a b : Int → Int} (h : PermOn lo hi a b) (h0 : lo' ≤ lo) (h1 : hi ≤ hi') : PermOn lo' hi' a b := by
  obtain ⟨p, q, h2, h3, h4⟩ := h
  exact ⟨p, q, h2, fun k hk => h3 k (by omega), h4⟩
theorem PermOn.out {lo hi : Int} {a b : Int → Int} (h : PermOn lo hi a b) {k : Int} (hk : ¬ (lo ≤ k ∧ k < hi)) : b k = a k := by
  obtain ⟨p, q, h2, h3, h4⟩ := h
  rw [h4, h3 k hk]
theorem PermOn.fr {lo hi : Int} {a b : Int → Int} (h : PermOn lo hi a b) {k : Int} (k0 : lo ≤ k) (k1 : k < hi) : ∃ j, lo ≤ j ∧ j < hi ∧ b k = a j := by
  obtain ⟨p, q, h2, h3, h4⟩ := h
  by_cases hj : lo ≤ p k ∧ p k < hi
  · exact ⟨p k, hj.1, hj.2, h4 k⟩
  · have h5 := h3 (p k) hj
    have h6 : p k = k := by
      have := congrArg q h5
      rw [(h2 _).2, (h2 _).2] at this; exact this
    rw [h6] at hj
    exact absurd ⟨k0, k1⟩ hj
theorem PermOn.symm {lo hi : Int} {a b : Int → Int} (h : PermOn lo hi a b) : PermOn lo hi b a := by
  obtain ⟨p, q, h2, h3, h4⟩ := h
  refine ⟨q, p, fun k => ⟨(h2 k).2, (h2 k).1⟩, fun k hk => ?_, fun k => ?_⟩
  · have := congrArg q (h3 k hk)
    rw [(h2 k).2] at this; exact this.symm
  · rw [h4, (h2 k).1]
def swp (a : Int → Int) (i j : Int) : Int → Int := fun k => if k = i then a j else if k = j then a i else a k
theorem swp_perm {a : Int → Int} {i j lo hi : Int} (i0 : lo ≤ i) (i1 : i < hi) (j0 : lo ≤ j) (j1 : j < hi) : PermOn lo hi a (swp a i j) := by
  have e : ∀ k, (fun k => if k = i then j else if k = j then i else k : Int → Int) ((fun k => if k = i then j else if k = j then i else k : Int → Int) k) = k := fun k => by
    dsimp only; split <;> (try split) <;> (try split) <;> (try split) <;> omega
  refine ⟨fun k => if k = i then j else if k = j then i else k, fun k => if k = i then j else if k = j then i else k, fun k => ⟨e k, e k⟩, fun k hk => ?_, fun k => ?_⟩
  · dsimp only; rw [if_neg (by omega), if_neg (by omega)]
  · unfold swp; dsimp only; split
    · rfl
    · split <;> rfl
def Srt (R : Int → Int → Prop) (lo hi : Int) (a : Int → Int) : Prop := ∀ i j, lo ≤ i → i < j → j < hi → R (a i) (a j)
theorem Srt.mono {R : Int → Int → Prop} {lo hi lo' hi' : Int} {a : Int → Int} (h : Srt R lo hi a) (h0 : lo ≤ lo') (h1 : hi' ≤ hi) : Srt R lo' hi' a := fun i j i0 ij j1 => h i j (by omega) ij (by omega)
theorem Srt.congr {R : Int → Int → Prop} {lo hi : Int} {a b : Int → Int} (h : Srt R lo hi a) (e : ∀ k, lo ≤ k → k < hi → b k = a k) : Srt R lo hi b := fun i j i0 ij j1 => by
  rw [e i i0 (by omega), e j (by omega) j1]; exact h i j i0 ij j1
def Tie (lt : Int → Int → Prop) : Int → Int → Prop := fun x y => lt x y ∨ (¬ lt y x ∧ x < y)
structure Swo (lt : Int → Int → Prop) : Prop where
  asym : ∀ x y, lt x y → ¬ lt y x
  trans : ∀ x y z, lt x y → lt y z → lt x z
  inc : ∀ x y z, ¬ lt x y → ¬ lt y z → ¬ lt x z
theorem Tie.trans {lt : Int → Int → Prop} (h : Swo lt) {x y z : Int} (a : Tie lt x y) (b : Tie lt y z) : Tie lt x z := by
  rcases a with a | ⟨a1, a2⟩ <;> rcases b with b | ⟨b1, b2⟩
  · exact .inl (h.trans _ _ _ a b)
  · left; exact Classical.byContradiction fun hn => h.inc _ _ _ hn b1 a
  · left; exact Classical.byContradiction fun hn => h.inc _ _ _ a1 hn b
  · exact .inr ⟨h.inc _ _ _ b1 a1, by omega⟩
theorem Tie.asym {lt : Int → Int → Prop} (h : Swo lt) {x y : Int} (a : Tie lt x y) : ¬ Tie lt y x := by
  rintro (b | ⟨b1, b2⟩)
  · rcases a with a | ⟨a1, a2⟩
    · exact h.asym _ _ a b
    · exact a1 b
  · rcases a with a | ⟨a1, a2⟩
    · exact b1 a
    · omega
theorem Tie.of {lt : Int → Int → Prop} (h : Swo lt) {x y : Int} (hxy : x < y) (hn : ¬ lt y x) : Tie lt x y := by
  by_cases hl : lt x y
  · exact .inl hl
  · exact .inr ⟨hn, hxy⟩
def Parted (lo c hi : Int) (a : Int → Int) : Prop := ∀ i j, lo ≤ i → i < c → c ≤ j → j < hi → a i < a j
theorem Parted.perm {lo c hi : Int} {a b : Int → Int} (h : Parted lo c hi a) (hp : ∃ m, PermOn lo c a m ∧ PermOn c hi m b) : Parted lo c hi b := fun i j i0 i1 j0 j1 => by
  obtain ⟨m, h1, h2⟩ := hp
  obtain ⟨i', g0, g1, g2⟩ := h1.fr i0 i1
  obtain ⟨j', f0, f1, f2⟩ := h2.fr j0 j1
  rw [h2.out (by omega), g2, f2, h1.out (by omega)]
  exact h i' j' g0 g1 f0 f1
def Incr (lo hi : Int) (a : Int → Int) : Prop := ∀ i j, lo ≤ i → i < j → j < hi → a i < a j
structure Ins (lt : Int → Int → Prop) (lo i j : Int) (a b : Int → Int) : Prop where
  perm : PermOn lo (i + 1) a b
  rest : ∀ p q, lo ≤ p → p < q → q ≤ i → p ≠ j → q ≠ j → Tie lt (b p) (b q)
  less : ∀ q, j < q → q ≤ i → Tie lt (b j) (b q)
  big : ∀ p, lo ≤ p → p < j → b p < b j
theorem Ins.start {lt : Int → Int → Prop} {lo i : Int} {a : Int → Int} (i0 : lo ≤ i) (hs : Srt (Tie lt) lo i a) (hb : ∀ p, lo ≤ p → p < i → a p < a i) : Ins lt lo i i a a :=
  ⟨.refl _ _ _, fun p q p0 pq q1 pi qi => hs p q p0 pq (by omega), fun q q0 q1 => by omega, hb⟩
theorem Ins.step {lt : Int → Int → Prop} {lo i j : Int} {a b : Int → Int} (j0 : lo < j) (j1 : j ≤ i) (h : Ins lt lo i j a b) (hl : lt (b j) (b (j - 1))) : Ins lt lo i (j - 1) a (swp b j (j - 1)) := by
  have e0 : swp b j (j - 1) j = b (j - 1) := by unfold swp; rw [if_pos rfl]
  have e1 : swp b j (j - 1) (j - 1) = b j := by unfold swp; rw [if_neg (by omega), if_pos rfl]
  have e2 : ∀ k, k ≠ j → k ≠ j - 1 → swp b j (j - 1) k = b k := fun k h1 h2 => by unfold swp; rw [if_neg h1, if_neg h2]
  refine ⟨h.perm.trans (swp_perm (by omega) (by omega) (by omega) (by omega)), fun p q p0 pq q1 pj qj => ?_, fun q q0 q1 => ?_, fun p p0 p1 => ?_⟩
  · by_cases hp : p = j
    · rw [hp, e0, e2 q (by omega) qj]; exact h.rest (j - 1) q (by omega) (by omega) q1 (by omega) (by omega)
    · rw [e2 p hp pj]
      by_cases hq : q = j
      · rw [hq, e0]; exact h.rest p (j - 1) p0 (by omega) (by omega) hp (by omega)
      · rw [e2 q hq qj]; exact h.rest p q p0 pq q1 hp hq
  · rw [e1]
    by_cases hq : q = j
    · rw [hq, e0]; exact .inl hl
    · rw [e2 q hq (by omega)]; exact h.less q (by omega) q1
  · rw [e1, e2 p (by omega) (by omega)]; exact h.big p p0 (by omega)
theorem Ins.fin {lt : Int → Int → Prop} (hw : Swo lt) {lo i j : Int} {a b : Int → Int} (j0 : lo ≤ j) (j1 : j ≤ i) (h : Ins lt lo i j a b) (hl : j = lo ∨ ¬ lt (b j) (b (j - 1))) : Srt (Tie lt) lo (i + 1) b := fun p q p0 pq q1 => by
  have hle : ∀ p, lo ≤ p → p < j → Tie lt (b p) (b j) := fun p p0 p1 => by
    rcases hl with hl | hl
    · omega
    · have h1 : Tie lt (b (j - 1)) (b j) := Tie.of hw (h.big (j - 1) (by omega) (by omega)) hl
      by_cases hp : p = j - 1
      · rw [hp]; exact h1
      · exact (h.rest p (j - 1) p0 (by omega) (by omega) (by omega) (by omega)).trans hw h1
  by_cases hp : p = j
  · rw [hp]; exact h.less q (by omega) (by omega)
  · by_cases hq : q = j
    · rw [hq]; exact hle p p0 (by omega)
    · exact h.rest p q p0 pq (by omega) hp hq
def swr (a : Int → Int) (x y n : Int) : Int → Int := fun k => if x ≤ k ∧ k < x + n then a (k - x + y) else if y ≤ k ∧ k < y + n then a (k - y + x) else a k
theorem swr_zero (a : Int → Int) (x y : Int) : swr a x y 0 = a := by
  funext k; unfold swr; rw [if_neg (by omega), if_neg (by omega)]
theorem swr_next {a : Int → Int} {x y i : Int} (h0 : 0 ≤ i) (h : x + i < y ∨ y + i < x) (hd : x + i < y ∨ y + i < x) (hx : x ≤ y) : swp (swr a x y i) (x + i) (y + i) = swr a x y (i + 1) := by
  funext k; unfold swp swr
  by_cases h1 : k = x + i
  · subst h1
    rw [if_pos rfl, if_neg (by omega), if_neg (by omega), if_pos (by omega)]; congr 1 <;> omega
  · rw [if_neg h1]
    by_cases h2 : k = y + i
    · subst h2
      rw [if_pos rfl, if_neg (by omega), if_neg (by omega), if_neg (by omega), if_pos (by omega)]; congr 1 <;> omega
    · rw [if_neg h2]
      by_cases h3 : x ≤ k ∧ k < x + i
      · rw [if_pos h3, if_pos (by omega)]
      · rw [if_neg h3]
        by_cases h4 : y ≤ k ∧ k < y + i
        · rw [if_pos h4, if_neg (by omega), if_pos (by omega)]
        · rw [if_neg h4, if_neg (by omega), if_neg (by omega)]
def rot (a : Int → Int) (lo c hi : Int) : Int → Int := fun k => if lo ≤ k ∧ k < lo + (hi - c) then a (k + (c - lo)) else if lo + (hi - c) ≤ k ∧ k < hi then a (k - (hi - c)) else a k
theorem rot_left {a : Int → Int} {c i j : Int} (h0 : 1 ≤ j) (h : j < i) : rot (swr a (c - i) c j) (c - i + j) c (c + j) = rot a (c - i) c (c + j) := by
  funext k; unfold rot swr
  by_cases h1 : c - i ≤ k ∧ k < c - i + j
  · rw [if_neg (by omega), if_neg (by omega), if_pos h1, if_pos (by omega)]; congr 1 <;> omega
  · by_cases h2 : c - i + j ≤ k ∧ k < c - i + j + j
    · rw [if_pos (by omega), if_neg (show ¬ (c - i ≤ k ∧ k < c - i + (c + j - c)) by omega), if_pos (show c - i + (c + j - c) ≤ k ∧ k < c + j by omega)]
      by_cases h3 : c - i ≤ k + (c - (c - i + j)) ∧ k + (c - (c - i + j)) < c - i + j
      · exfalso; omega
      · rw [if_neg h3]
        by_cases h4 : c ≤ k + (c - (c - i + j)) ∧ k + (c - (c - i + j)) < c + j
        · rw [if_pos h4]; congr 1 <;> omega
        · exfalso; omega
    · by_cases h3 : c - i + j + j ≤ k ∧ k < c + j
      · rw [if_neg (by (try omega)), if_pos (by (try omega)), if_neg (by (try omega)), if_neg (by (try omega)), if_neg (by (try omega)), if_pos (by (try omega))]
      · rw [if_neg (by omega), if_neg (by omega), if_neg (by omega), if_neg (by omega), if_neg (by omega), if_neg (by omega)]
theorem rot_right {a : Int → Int} {c i j : Int} (h0 : 1 ≤ i) (h : i < j) : rot (swr a (c - i) (c + j - i) i) (c - i) c (c + j - i) = rot a (c - i) c (c + j) := by
  funext k; unfold rot swr
  by_cases h1 : c - i ≤ k ∧ k < c + j - i - i
  · rw [if_pos (by omega), if_neg (by omega), if_neg (by omega), if_pos (by omega)]
  · by_cases h2 : c + j - i - i ≤ k ∧ k < c + j - i
    · by_cases h5 : k < c - i
      · exfalso; omega
      · rw [if_neg (by omega), if_pos (by omega), if_pos (by omega), if_pos (by omega)]; congr 1 <;> omega
    · by_cases h3 : c + j - i ≤ k ∧ k < c + j
      · rw [if_neg (by omega), if_neg (by omega), if_neg (by omega), if_pos (by omega), if_neg (by omega), if_pos (by omega)]; congr 1 <;> omega
      · rw [if_neg (by omega), if_neg (by omega), if_neg (by omega), if_neg (by omega), if_neg (by omega), if_neg (by omega)]
theorem rot_even {a : Int → Int} {c i : Int} (h0 : 0 ≤ i) : swr a (c - i) c i = rot a (c - i) c (c + i) := by
  funext k; unfold rot swr
  by_cases h1 : c - i ≤ k ∧ k < c
  · rw [if_pos (by omega), if_pos (by omega)]; congr 1 <;> omega
  · by_cases h2 : c ≤ k ∧ k < c + i
    · rw [if_neg (by omega), if_pos (by omega), if_neg (by omega), if_pos (by omega)]; congr 1 <;> omega
    · rw [if_neg (by omega), if_neg (by omega), if_neg (by omega), if_neg (by omega)]
theorem rot_perm {a : Int → Int} {lo c hi : Int} (h0 : lo ≤ c) (h1 : c ≤ hi) : PermOn lo hi a (rot a lo c hi) := by
  refine ⟨fun k => if lo ≤ k ∧ k < lo + (hi - c) then k + (c - lo) else if lo + (hi - c) ≤ k ∧ k < hi then k - (hi - c) else k, fun k => if lo ≤ k ∧ k < c then k + (hi - c) else if c ≤ k ∧ k < hi then k - (c - lo) else k, fun k => ⟨?_, ?_⟩, fun k hk => ?_, fun k => ?_⟩
  · dsimp only
    by_cases g1 : lo ≤ k ∧ k < c
    · rw [if_pos g1, if_neg (by omega), if_pos (by omega)]; omega
    · rw [if_neg g1]
      by_cases g2 : c ≤ k ∧ k < hi
      · rw [if_pos g2, if_pos (by omega)]; omega
      · rw [if_neg g2, if_neg (by omega), if_neg (by omega)]
  · dsimp only
    by_cases g1 : lo ≤ k ∧ k < lo + (hi - c)
    · rw [if_pos g1, if_neg (by omega), if_pos (by omega)]; omega
    · rw [if_neg g1]
      by_cases g2 : lo + (hi - c) ≤ k ∧ k < hi
      · rw [if_pos g2, if_pos (by omega)]; omega
      · rw [if_neg g2, if_neg (by omega), if_neg (by omega)]
  · dsimp only; rw [if_neg (by omega), if_neg (by omega)]
  · unfold rot; dsimp only; split
    · rfl
    · split <;> rfl
theorem shl_zero (a : Int → Int) (lo : Int) : rot a lo (lo + 1) (lo + 1) = a := by
  funext k; unfold rot
  by_cases h : lo ≤ k ∧ k < lo + 1
  · rw [if_neg (by omega), if_pos (by omega)]; congr 1 <;> omega
  · rw [if_neg (by omega), if_neg (by omega)]
theorem shl_next {a : Int → Int} {lo k : Int} (h : lo ≤ k) : swp (rot a lo (lo + 1) (k + 1)) k (k + 1) = rot a lo (lo + 1) (k + 1 + 1) := by
  funext j; unfold swp rot
  by_cases h1 : j = k
  · subst h1
    rw [if_pos rfl, if_neg (by omega), if_neg (by omega), if_pos (by omega)]; congr 1 <;> omega
  · rw [if_neg h1]
    by_cases h2 : j = k + 1
    · subst h2
      rw [if_pos rfl, if_neg (by omega), if_pos (by omega), if_neg (by omega), if_pos (by omega)]; congr 1 <;> omega
    · rw [if_neg h2]
      by_cases h3 : lo ≤ j ∧ j < k
      · rw [if_pos (by omega), if_pos (by omega)]
      · rw [if_neg (by omega), if_neg (by omega), if_neg (by omega), if_neg (by omega)]
theorem shr_zero (a : Int → Int) (c : Int) : rot a c c (c + 1) = a := by
  funext k; unfold rot
  by_cases h : c ≤ k ∧ k < c + 1
  · rw [if_pos (by omega)]; congr 1 <;> omega
  · rw [if_neg (by omega), if_neg (by omega)]
theorem shr_next {a : Int → Int} {c k : Int} (h : k ≤ c) : swp (rot a k c (c + 1)) k (k - 1) = rot a (k - 1) c (c + 1) := by
  funext j; unfold swp rot
  by_cases h1 : j = k
  · subst h1
    rw [if_pos rfl, if_neg (by omega), if_neg (by omega), if_neg (by omega), if_pos (by omega)]; congr 1 <;> omega
  · rw [if_neg h1]
    by_cases h2 : j = k - 1
    · subst h2
      rw [if_pos rfl, if_pos (by omega), if_pos (by omega)]; congr 1 <;> omega
    · rw [if_neg h2]
      by_cases h3 : k + 1 ≤ j ∧ j < c + 1
      · rw [if_neg (by omega), if_pos (by omega), if_neg (by omega), if_pos (by omega)]
      · rw [if_neg (by omega), if_neg (by omega), if_neg (by omega), if_neg (by omega)]
theorem merge_one {lt : Int → Int → Prop} (hw : Swo lt) {a b e : Int} {s : Int → Int} (hs : Srt (Tie lt) (a + 1) b s) (hb : ∀ j, a + 1 ≤ j → j < b → s a < s j) (e0 : a + 1 ≤ e) (e1 : e ≤ b)
    (h1 : e = a + 1 ∨ lt (s (e - 1)) (s a)) (h2 : e = b ∨ ¬ lt (s e) (s a)) : Srt (Tie lt) a b (rot s a (a + 1) e) := fun i j i0 ij j1 => by
  have r1 : ∀ k, a ≤ k → k < e - 1 → rot s a (a + 1) e k = s (k + 1) := fun k k0 k1 => by unfold rot; rw [if_pos (by omega)]; congr 1 <;> omega
  have r2 : rot s a (a + 1) e (e - 1) = s a := by unfold rot; rw [if_neg (by omega), if_pos (by omega)]; congr 1 <;> omega
  have r3 : ∀ k, e ≤ k → rot s a (a + 1) e k = s k := fun k k0 => by unfold rot; rw [if_neg (by omega), if_neg (by omega)]
  by_cases hi : i < e - 1
  · rw [r1 i i0 hi]
    by_cases hj : j < e - 1
    · rw [r1 j (by omega) hj]; exact hs _ _ (by omega) (by omega) (by omega)
    · by_cases hj2 : j = e - 1
      · rw [hj2, r2]
        rcases h1 with h1 | h1
        · omega
        · by_cases hie : i + 1 = e - 1
          · rw [hie]; exact .inl h1
          · exact (hs (i + 1) (e - 1) (by omega) (by omega) (by omega)).trans hw (.inl h1)
      · rw [r3 j (by omega)]; exact hs _ _ (by omega) (by omega) j1
  · by_cases hi2 : i = e - 1
    · rw [hi2, r2, r3 j (by omega)]
      rcases h2 with h2 | h2
      · omega
      · have h3 : Tie lt (s a) (s e) := Tie.of hw (hb e e0 (by omega)) h2
        by_cases hje : j = e
        · rw [hje]; exact h3
        · exact h3.trans hw (hs e j e0 (by omega) j1)
    · rw [r3 i (by omega), r3 j (by omega)]; exact hs i j (by omega) ij j1
theorem merge_last {lt : Int → Int → Prop} (hw : Swo lt) {a m e : Int} {s : Int → Int} (hs : Srt (Tie lt) a m s) (hb : ∀ i, a ≤ i → i < m → s i < s m) (e0 : a ≤ e) (e1 : e ≤ m)
    (h1 : e = a ∨ ¬ lt (s m) (s (e - 1))) (h2 : e = m ∨ lt (s m) (s e)) : Srt (Tie lt) a (m + 1) (rot s e m (m + 1)) := fun i j i0 ij j1 => by
  have r1 : ∀ k, k < e → rot s e m (m + 1) k = s k := fun k k0 => by unfold rot; rw [if_neg (by omega), if_neg (by omega)]
  have r2 : rot s e m (m + 1) e = s m := by unfold rot; rw [if_pos (by omega)]; congr 1 <;> omega
  have r3 : ∀ k, e < k → k < m + 1 → rot s e m (m + 1) k = s (k - 1) := fun k k0 k1 => by unfold rot; rw [if_neg (by omega), if_pos (by omega)]; congr 1 <;> omega
  have hlo : ∀ i, a ≤ i → i < e → Tie lt (s i) (s m) := fun i i0 i1 => by
    rcases h1 with h1 | h1
    · omega
    · have h3 : Tie lt (s (e - 1)) (s m) := Tie.of hw (hb (e - 1) (by omega) (by omega)) h1
      by_cases hie : i = e - 1
      · rw [hie]; exact h3
      · exact (hs i (e - 1) i0 (by omega) (by omega)).trans hw h3
  by_cases hi : i < e
  · rw [r1 i hi]
    by_cases hj : j < e
    · rw [r1 j hj]; exact hs i j i0 ij (by omega)
    · by_cases hj2 : j = e
      · rw [hj2, r2]; exact hlo i i0 hi
      · rw [r3 j (by omega) j1]; exact hs i (j - 1) i0 (by omega) (by omega)
  · by_cases hi2 : i = e
    · rw [hi2, r2, r3 j (by omega) j1]
      rcases h2 with h2 | h2
      · omega
      · by_cases hje : j - 1 = e
        · rw [hje]; exact .inl h2
        · exact Tie.trans hw (.inl h2) (hs e (j - 1) e0 (by omega) (by omega))
    · rw [r3 i (by omega) (by omega), r3 j (by omega) j1]; exact hs (i - 1) (j - 1) (by omega) (by omega) (by omega)
structure Halves (lt : Int → Int → Prop) (a s mid e b : Int) (t : Int → Int) : Prop where
  l1 : Srt (Tie lt) a s t
  l2 : Srt (Tie lt) s mid t
  r1 : Srt (Tie lt) mid e t
  r2 : Srt (Tie lt) e b t
  pl : Parted a s mid t
  pr : Parted mid e b t
  cross : ∀ i j, a ≤ i → i < mid → mid ≤ j → j < b → Tie lt (t i) (t j)
theorem merge_halves {lt : Int → Int → Prop} (hw : Swo lt) {a m b s mid e : Int} {t : Int → Int} (h1 : Srt (Tie lt) a m t) (h2 : Srt (Tie lt) m b t) (hp : Parted a m b t) (he : s + e = mid + m) (s0 : a ≤ s) (s1 : s ≤ m) (e0 : m ≤ e) (e1 : e ≤ b)
    (g1 : s = a ∨ e = b ∨ ¬ lt (t e) (t (s - 1))) (g2 : s = m ∨ e = m ∨ lt (t (e - 1)) (t s)) : Halves lt a s mid e b (rot t s m e) := by
  have r0 : ∀ k, k < s → rot t s m e k = t k := fun k k0 => by unfold rot; rw [if_neg (by omega), if_neg (by omega)]
  have r1 : ∀ k, s ≤ k → k < mid → rot t s m e k = t (k + (m - s)) := fun k k0 k1 => by unfold rot; rw [if_pos (by omega)]
  have r2 : ∀ k, mid ≤ k → k < e → rot t s m e k = t (k - (e - m)) := fun k k0 k1 => by unfold rot; rw [if_neg (by omega), if_pos (by omega)]
  have r3 : ∀ k, e ≤ k → rot t s m e k = t k := fun k k0 => by unfold rot; rw [if_neg (by omega), if_neg (by omega)]
  have c1 : ∀ i j, a ≤ i → i < s → e ≤ j → j < b → Tie lt (t i) (t j) := fun i j i0 i1 j0 j1 => by
    rcases g1 with g1 | g1 | g1
    · omega
    · omega
    · have h3 : Tie lt (t (s - 1)) (t e) := Tie.of hw (hp (s - 1) e (by omega) (by omega) e0 (by omega)) g1
      have h4 : Tie lt (t i) (t e) := by
        by_cases hi : i = s - 1
        · rw [hi]; exact h3
        · exact (h1 i (s - 1) i0 (by omega) (by omega)).trans hw h3
      by_cases hj : j = e
      · rw [hj]; exact h4
      · exact h4.trans hw (h2 e j e0 (by omega) j1)
  have c2 : ∀ i j, m ≤ i → i < e → s ≤ j → j < m → Tie lt (t i) (t j) := fun i j i0 i1 j0 j1 => by
    rcases g2 with g2 | g2 | g2
    · omega
    · omega
    · have h4 : Tie lt (t i) (t s) := by
        by_cases hi : i = e - 1
        · rw [hi]; exact .inl g2
        · exact (h2 i (e - 1) i0 (by omega) (by omega)).trans hw (.inl g2)
      by_cases hj : j = s
      · rw [hj]; exact h4
      · exact h4.trans hw (h1 s j (by omega) (by omega) j1)
  refine ⟨fun i j i0 ij j1 => ?_, fun i j i0 ij j1 => ?_, fun i j i0 ij j1 => ?_, fun i j i0 ij j1 => ?_, fun i j i0 i1 j0 j1 => ?_, fun i j i0 i1 j0 j1 => ?_, fun i j i0 i1 j0 j1 => ?_⟩
  · rw [r0 i (by omega), r0 j j1]; exact h1 i j i0 ij (by omega)
  · rw [r1 i i0 (by omega), r1 j (by omega) j1]; exact h2 _ _ (by omega) (by omega) (by omega)
  · rw [r2 i i0 (by omega), r2 j (by omega) j1]; exact h1 _ _ (by omega) (by omega) (by omega)
  · rw [r3 i i0, r3 j (by omega)]; exact h2 _ _ (by omega) (by omega) (by omega)
  · rw [r0 i i1, r1 j j0 j1]; exact hp _ _ i0 (by omega) (by omega) (by omega)
  · rw [r2 i i0 i1, r3 j j0]; exact hp _ _ (by omega) (by omega) (by omega) (by omega)
  · by_cases hi : i < s
    · rw [r0 i hi]
      by_cases hj : j < e
      · rw [r2 j j0 hj]; exact h1 _ _ (by omega) (by omega) (by omega)
      · rw [r3 j (by omega)]; exact c1 i j i0 hi (by omega) j1
    · rw [r1 i (by omega) i1]
      by_cases hj : j < e
      · rw [r2 j j0 hj]; exact c2 _ _ (by omega) (by omega) (by omega) (by omega)
      · rw [r3 j (by omega)]; exact h2 _ _ (by omega) (by omega) (by omega)
theorem Halves.left {lt : Int → Int → Prop} {a s mid e b : Int} {t : Int → Int} (h : Halves lt a s mid e b t) (hn : ¬ (a < s ∧ s < mid)) (s0 : a ≤ s) (s1 : s ≤ mid) : Srt (Tie lt) a mid t := by
  by_cases h1 : a < s
  · obtain rfl : s = mid := by omega
    exact h.l1
  · obtain rfl : a = s := by omega
    exact h.l2
theorem Halves.right {lt : Int → Int → Prop} {a s mid e b : Int} {t : Int → Int} (h : Halves lt a s mid e b t) (hn : ¬ (mid < e ∧ e < b)) (s0 : mid ≤ e) (s1 : e ≤ b) : Srt (Tie lt) mid b t := by
  by_cases h1 : mid < e
  · obtain rfl : e = b := by omega
    exact h.r1
  · obtain rfl : mid = e := by omega
    exact h.r2
theorem Halves.keep {lt : Int → Int → Prop} {a s mid e b : Int} {t u : Int → Int} (h : Halves lt a s mid e b t) (hp : PermOn a mid t u) : Srt (Tie lt) mid e u ∧ Srt (Tie lt) e b u ∧ Parted mid e b u ∨ e < mid := by
  by_cases he : mid ≤ e
  · refine .inl ⟨h.r1.congr fun k k0 k1 => hp.out (by omega), h.r2.congr fun k k0 k1 => hp.out (by omega), fun i j i0 i1 j0 j1 => ?_⟩
    rw [hp.out (by omega), hp.out (by omega)]; exact h.pr i j i0 i1 j0 j1
  · exact .inr (by omega)
theorem Halves.join {lt : Int → Int → Prop} (hw : Swo lt) {a s mid e b : Int} {t u v : Int → Int} (h : Halves lt a s mid e b t) (a0 : a ≤ mid) (b0 : mid ≤ b) (h1 : PermOn a mid t u) (h2 : Srt (Tie lt) a mid u) (h3 : PermOn mid b u v) (h4 : Srt (Tie lt) mid b v) : Srt (Tie lt) a b v := fun i j i0 ij j1 => by
  by_cases hj : j < mid
  · rw [h3.out (by omega), h3.out (by omega)]; exact h2 i j i0 ij hj
  · by_cases hi : i < mid
    · rw [h3.out (by omega)]
      obtain ⟨i', g0, g1, g2⟩ := h1.fr i0 hi
      obtain ⟨j', f0, f1, f2⟩ := h3.fr (show mid ≤ j by omega) j1
      rw [g2, f2, h1.out (by omega)]
      exact h.cross i' j' g0 g1 f0 f1
    · exact h4 i j (by omega) ij j1
theorem Parted.keep {lo c hi x y : Int} {a b : Int → Int} (h : Parted lo c hi a) (hp : PermOn x y a b) (x0 : lo ≤ x) (y0 : y ≤ hi) (hc : y ≤ c ∨ c ≤ x) : Parted lo c hi b := fun i j i0 i1 j0 j1 => by
  have gi : ∃ i', lo ≤ i' ∧ i' < c ∧ b i = a i' := by
    by_cases hx : x ≤ i ∧ i < y
    · obtain ⟨i', g0, g1, g2⟩ := hp.fr hx.1 hx.2
      exact ⟨i', by omega, by omega, g2⟩
    · exact ⟨i, i0, i1, hp.out hx⟩
  have gj : ∃ j', c ≤ j' ∧ j' < hi ∧ b j = a j' := by
    by_cases hx : x ≤ j ∧ j < y
    · obtain ⟨j', g0, g1, g2⟩ := hp.fr hx.1 hx.2
      exact ⟨j', by omega, by omega, g2⟩
    · exact ⟨j, j0, j1, hp.out hx⟩
  obtain ⟨i', a1, a2, a3⟩ := gi
  obtain ⟨j', b1, b2, b3⟩ := gj
  rw [a3, b3]; exact h i' j' a1 a2 b1 b2
def Runs_ (lt : Int → Int → Prop) (s n x y : Int) (t : Int → Int) : Prop := ∀ c, x ≤ c → c < y → s ∣ c → Srt (Tie lt) c (min (c + s) n) t ∧ Parted 0 c n t
theorem Runs_.keep {lt : Int → Int → Prop} {s n x y p q : Int} {t u : Int → Int} (h : Runs_ lt s n x y t) (hp : PermOn p q t u) (p0 : 0 ≤ p) (q0 : q ≤ n) (hc : ∀ c, x ≤ c → c < y → s ∣ c → min (c + s) n ≤ p ∧ c ≤ p ∨ q ≤ c) : Runs_ lt s n x y u := fun c c0 c1 cd => by
  have h1 := h c c0 c1 cd
  have h2 := hc c c0 c1 cd
  exact ⟨h1.1.congr fun k k0 k1 => hp.out (by omega), h1.2.keep hp p0 q0 (by omega)⟩
theorem dvd_gap {s c a : Int} (hs : 0 < s) (h1 : s ∣ c) (h2 : s ∣ a) (h : c < a) : c + s ≤ a := by
  have := Int.le_of_dvd (show 0 < a - c by omega) (Int.dvd_sub h2 h1)
  omega
theorem PermOn.dom {lo hi n N : Int} {a b : Int → Int} (h : PermOn lo hi a b) (h0 : 0 ≤ lo) (h1 : hi ≤ n ∨ n ≤ lo) (hd : ∀ k, 0 ≤ k → k < n → 0 ≤ a k ∧ a k < N) : ∀ k, 0 ≤ k → k < n → 0 ≤ b k ∧ b k < N := fun k k0 k1 => by
  by_cases hk : lo ≤ k ∧ k < hi
  · obtain ⟨j, j0, j1, j2⟩ := h.fr hk.1 hk.2
    rw [j2]; exact hd j (by omega) (by omega)
  · rw [h.out hk]; exact hd k k0 k1
theorem ins_big {a b i : Int} {s t : Int → Int} (hp : PermOn a i s t) (hinc : Incr a b s) (hi : i < b) : ∀ p, a ≤ p → p < i → t p < t i := fun p p0 p1 => by
  obtain ⟨j, j0, j1, j2⟩ := hp.fr p0 p1
  rw [j2, hp.out (by omega)]; exact hinc j i j0 j1 hi
theorem rot_triv {a : Int → Int} {x m e : Int} (h0 : x ≤ m) (h1 : m ≤ e) (h : ¬ (x < m ∧ m < e)) : rot a x m e = a := by
  funext k; unfold rot
  by_cases g1 : x ≤ k ∧ k < x + (e - m)
  · rw [if_pos g1]; congr 1; omega
  · rw [if_neg g1]
    by_cases g2 : x + (e - m) ≤ k ∧ k < e
    · rw [if_pos g2]; congr 1; omega
    · rw [if_neg g2]
theorem runs_first {lt : Int → Int → Prop} {z n a b : Int} {s t u : Int → Int} (hz : 0 < z) (hinc : Incr 0 n s) (hr : Runs_ lt z n 0 a t) (a0 : 0 ≤ a) (hd : z ∣ a) (hp : PermOn 0 a s t) (hq : PermOn a b t u) (hs : Srt (Tie lt) a b u) (hb : b = a + z ∧ b ≤ n ∨ b = n ∧ n < a + z) (ab : a ≤ b) : Runs_ lt z n 0 b u := fun c c0 c1 cd => by
  by_cases hc : c < a
  · exact (hr.keep hq a0 (by omega) (fun c c0 c1 cd => .inl (by have := dvd_gap hz cd hd c1; omega))) c c0 hc cd
  · have hca : c = a := by
      by_cases h : a < c
      · have := dvd_gap hz hd cd h; omega
      · omega
    subst hca
    refine ⟨hs.mono (by omega) (by omega), fun i j i0 i1 j0 j1 => ?_⟩
    obtain ⟨i', g0, g1, g2⟩ := hp.fr i0 i1
    rw [hq.out (by omega), g2]
    by_cases hj : j < b
    · obtain ⟨j', f0, f1, f2⟩ := hq.fr j0 hj
      rw [f2, hp.out (by omega)]; exact hinc i' j' g0 (by omega) (by omega)
    · rw [hq.out (by omega), hp.out (by omega)]; exact hinc i' j g0 (by omega) j1
theorem runs_pre {lt : Int → Int → Prop} {z n a b : Int} {t : Int → Int} (hz : 0 < z) (a0 : 0 ≤ a) (hd : z ∣ a) (h : Runs_ lt z n a n t) (hm : a + z < b) (hb : b ≤ a + 2 * z) (hn : b ≤ n) : Srt (Tie lt) a (a + z) t ∧ Srt (Tie lt) (a + z) b t ∧ Parted a (a + z) b t := by
  have h1 := h a (Int.le_refl _) (by omega) hd
  have h2 := h (a + z) (by omega) (by omega) (Int.dvd_add hd (Int.dvd_refl z))
  exact ⟨h1.1.mono (by omega) (by omega), h2.1.mono (by omega) (by omega), fun i j i0 i1 j0 j1 => h2.2 i j (by omega) i1 j0 (by omega)⟩
theorem runs_merge {lt : Int → Int → Prop} {z n a b : Int} {t u : Int → Int} (hz : 0 < z) (a0 : 0 ≤ a) (hd : 2 * z ∣ a) (h2 : Runs_ lt (2 * z) n 0 a t) (h1 : Runs_ lt z n a n t) (hq : PermOn a b t u) (hs : Srt (Tie lt) a b u) (hb : b = a + 2 * z ∧ b ≤ n ∨ b = n ∧ n < a + 2 * z) (ab : a < b) : Runs_ lt (2 * z) n 0 b u ∧ Runs_ lt z n b n u := by
  refine ⟨fun c c0 c1 cd => ?_, fun c c0 c1 cd => ?_⟩
  · by_cases hc : c < a
    · exact (h2.keep hq a0 (by omega) (fun c c0 c1 cd => .inl (by have := dvd_gap (by omega) cd hd c1; omega))) c c0 hc cd
    · have hca : c = a := by
        by_cases h : a < c
        · have := dvd_gap (by omega) hd cd h; omega
        · omega
      subst hca
      exact ⟨hs.mono (by omega) (by omega), (h1 c (by omega) (by omega) (Int.dvd_trans (Int.dvd_mul_left 2 z) cd)).2.keep hq a0 (by omega) (.inr (Int.le_refl _))⟩
  · have h3 := h1 c (by omega) c1 cd
    exact ⟨h3.1.congr fun k k0 k1 => hq.out (by omega), h3.2.keep hq a0 (by omega) (.inl (by omega))⟩
theorem runs_all {lt : Int → Int → Prop} {z n : Int} {t : Int → Int} (h : Runs_ lt z n 0 n t) (hz : n ≤ z) : Srt (Tie lt) 0 n t := fun i j i0 ij j1 => by
  exact (h 0 (Int.le_refl _) (by omega) (Int.dvd_zero z)).1 i j i0 ij (by omega)
theorem Halves.after {lt : Int → Int → Prop} {a s mid e b : Int} {t u : Int → Int} (h : Halves lt a s mid e b t) (hp : PermOn a mid t u) (hs : Srt (Tie lt) a mid u) (e0 : mid ≤ e) (e1 : e ≤ b) : Halves lt a a mid e b u := by
  refine ⟨fun i j i0 ij j1 => by omega, hs, h.r1.congr fun k k0 k1 => hp.out (by omega), h.r2.congr fun k k0 k1 => hp.out (by omega), fun i j i0 i1 j0 j1 => by omega, fun i j i0 i1 j0 j1 => ?_, fun i j i0 i1 j0 j1 => ?_⟩
  · rw [hp.out (by omega), hp.out (by omega)]; exact h.pr i j i0 i1 j0 j1
  · obtain ⟨i', g0, g1, g2⟩ := hp.fr i0 i1
    rw [g2, hp.out (k := j) (by omega)]; exact h.cross i' j g0 g1 j0 j1
theorem incr_keep {a n lo hi : Int} {s t : Int → Int} (hp : PermOn 0 a s t) (h : Incr 0 n s) (a0 : 0 ≤ a) (h0 : a ≤ lo) (h1 : hi ≤ n) : Incr lo hi t := fun i j i0 ij j1 => by
  rw [hp.out (by omega), hp.out (by omega)]; exact h i j (by omega) ij (by omega)
theorem runs_end {lt : Int → Int → Prop} {z n a : Int} {t : Int → Int} (hz : 0 < z) (a0 : 0 ≤ a) (hd : 2 * z ∣ a) (h2 : Runs_ lt (2 * z) n 0 a t) (h1 : Runs_ lt z n a n t) (ha : a ≤ n) (hm : n ≤ a + z) : Runs_ lt (2 * z) n 0 n t := by
  by_cases h : a < n
  · exact (runs_merge hz a0 hd h2 h1 (.refl _ _ _) ((h1 a (Int.le_refl _) h (Int.dvd_trans (Int.dvd_mul_left 2 z) hd)).1.mono (Int.le_refl _) (by omega)) (.inr ⟨rfl, by omega⟩) h).1
  · obtain rfl : a = n := by omega
    exact h2
end Go.Proofs.Gw
namespace Go.Proofs.Gw
def lst (n : Int) (f : Int → Int) : List Int := (List.range n.toNat).map fun (k : Nat) => f (k : Int)
theorem lst_len (n : Int) (f : Int → Int) : (lst n f).length = n.toNat := by simp [lst]
theorem lst_get (n : Int) (f : Int → Int) (k : Nat) : (lst n f)[k]? = if (k : Int) < n then some (f k) else none := by
  unfold lst
  by_cases h : (k : Int) < n
  · rw [if_pos h, List.getElem?_map, List.getElem?_range (by omega)]; rfl
  · rw [if_neg h]; simp; omega
theorem lst_eq {n m : Int} {f g : Int → Int} (n0 : 0 ≤ n) (m0 : 0 ≤ m) : lst n f = lst m g ↔ n = m ∧ ∀ k, 0 ≤ k → k < n → f k = g k := by
  constructor
  · intro h
    have hl := congrArg List.length h
    rw [lst_len, lst_len] at hl
    refine ⟨by omega, fun k k0 k1 => ?_⟩
    have h1 := congrArg (fun l => l[k.toNat]?) h
    simp only [lst_get] at h1
    rw [Int.toNat_of_nonneg k0, if_pos k1, if_pos (by omega)] at h1
    injection h1
  · rintro ⟨rfl, h⟩
    apply List.ext_getElem?
    intro k
    rw [lst_get, lst_get]
    by_cases hk : (k : Int) < n
    · rw [if_pos hk, if_pos hk, h k (by omega) hk]
    · rw [if_neg hk, if_neg hk]
theorem lst_congr {n : Int} {f g : Int → Int} (h : ∀ k, 0 ≤ k → k < n → f k = g k) : lst n f = lst n g := by
  apply List.ext_getElem?
  intro k
  rw [lst_get, lst_get]
  by_cases hk : (k : Int) < n
  · rw [if_pos hk, if_pos hk, h k (by omega) hk]
  · rw [if_neg hk, if_neg hk]
def olt : Option Int → Option Int → Prop
  | none, some _ => True
  | some x, some y => x < y
  | _, _ => False
theorem olt_irr : ∀ a, ¬ olt a a
  | none => id
  | some x => by simp [olt]
theorem olt_trans : ∀ {a b c}, olt a b → olt b c → olt a c
  | none, some _, some _, _, _ => trivial
  | some x, some y, some z, h, k => by simp only [olt] at *; omega
theorem olt_tri : ∀ {a b : Option Int}, a ≠ b → olt a b ∨ olt b a
  | none, none, h => absurd rfl h
  | none, some _, _ => .inl trivial
  | some _, none, _ => .inr trivial
  | some x, some y, h => by simp only [olt]; have : x ≠ y := fun e => h (by rw [e]); omega
def ahd (a b : List Int) : Prop := ∃ j : Nat, (∀ k < j, a[k]? = b[k]?) ∧ olt b[j]? a[j]?
theorem ahd_asym {a b : List Int} (h : ahd a b) : ¬ ahd b a := by
  rintro ⟨j, h1, h2⟩
  obtain ⟨i, g1, g2⟩ := h
  rcases Nat.lt_trichotomy i j with h | h | h
  · rw [h1 i h] at g2; exact olt_irr _ g2
  · subst h; exact olt_irr _ (olt_trans g2 h2)
  · rw [g1 j h] at h2; exact olt_irr _ h2
theorem ahd_trans {a b c : List Int} (h : ahd a b) (k : ahd b c) : ahd a c := by
  obtain ⟨i, g1, g2⟩ := h
  obtain ⟨j, h1, h2⟩ := k
  rcases Nat.lt_trichotomy i j with h | h | h
  · exact ⟨i, fun k hk => (g1 k hk).trans (h1 k (by omega)), by rw [← h1 i h]; exact g2⟩
  · subst h; exact ⟨i, fun k hk => (g1 k hk).trans (h1 k hk), olt_trans h2 g2⟩
  · exact ⟨j, fun k hk => (g1 k (by omega)).trans (h1 k hk), by rw [g1 j h]; exact h2⟩
theorem ahd_tri {a b : List Int} (h : a ≠ b) : ahd a b ∨ ahd b a := by
  have hex : ∃ k : Nat, a[k]? ≠ b[k]? := Classical.byContradiction fun hn => h (List.ext_getElem? fun k => Classical.byContradiction fun hk => hn ⟨k, hk⟩)
  have hmin : ∃ k : Nat, a[k]? ≠ b[k]? ∧ ∀ j < k, a[j]? = b[j]? := by
    obtain ⟨k, hk⟩ := hex
    induction k using Nat.strongRecOn with
    | ind k ih =>
      by_cases hb : ∃ j, j < k ∧ a[j]? ≠ b[j]?
      · obtain ⟨j, hj, hne⟩ := hb; exact ih j hj hne
      · exact ⟨k, hk, fun j hj => Classical.byContradiction fun hne => hb ⟨j, hj, hne⟩⟩
  obtain ⟨k, hk, hlt⟩ := hmin
  rcases olt_tri hk with h1 | h1
  · exact .inr ⟨k, fun j hj => (hlt j hj).symm, h1⟩
  · exact .inl ⟨k, hlt, h1⟩
theorem ahd_irr (a : List Int) : ¬ ahd a a := fun h => ahd_asym h h
theorem ahd_gt {n m : Int} {f g : Int → Int} {j : Int} (j0 : 0 ≤ j) (jn : j < n) (jm : j < m) (he : ∀ k, 0 ≤ k → k < j → f k = g k) (h : g j < f j) : ahd (lst n f) (lst m g) := by
  refine ⟨j.toNat, fun k hk => ?_, ?_⟩
  · rw [lst_get, lst_get, if_pos (by omega), if_pos (by omega), he k (by omega) (by omega)]
  · rw [lst_get, lst_get, Int.toNat_of_nonneg j0, if_pos jn, if_pos jm]; exact h
theorem ahd_long {n m : Int} {f g : Int → Int} (m0 : 0 ≤ m) (h : m < n) (he : ∀ k, 0 ≤ k → k < m → f k = g k) : ahd (lst n f) (lst m g) := by
  refine ⟨m.toNat, fun k hk => ?_, ?_⟩
  · rw [lst_get, lst_get, if_pos (by omega), if_pos (by omega), he k (by omega) (by omega)]
  · rw [lst_get, lst_get, Int.toNat_of_nonneg m0, if_neg (by omega), if_pos h]; trivial
theorem ahd_same {n : Int} {f g : Int → Int} (he : ∀ k, 0 ≤ k → k < n → f k = g k) : ¬ ahd (lst n f) (lst n g) := by
  rw [lst_congr he]; exact ahd_irr _
abbrev Us := List (List Int × Int)
def plL (n : Int) (ln : Int → Int) (pt : Int → Int → Int) (cnt : Int → Int) : Us := (List.range n.toNat).map fun (i : Nat) => (lst (ln (i : Int)) (pt (i : Int)), cnt (i : Int))
theorem plL_len (n : Int) (ln : Int → Int) (pt : Int → Int → Int) (cnt : Int → Int) : (plL n ln pt cnt).length = n.toNat := by simp [plL]
theorem plL_get (n : Int) (ln : Int → Int) (pt : Int → Int → Int) (cnt : Int → Int) (k : Nat) : (plL n ln pt cnt)[k]? = if (k : Int) < n then some (lst (ln k) (pt k), cnt k) else none := by
  unfold plL
  by_cases h : (k : Int) < n
  · rw [if_pos h, List.getElem?_map, List.getElem?_range (by omega)]; rfl
  · rw [if_neg h]; simp; omega
theorem plL_congr {n : Int} {ln ln' : Int → Int} {pt pt' : Int → Int → Int} {cnt cnt' : Int → Int} (h : ∀ k, 0 ≤ k → k < n → ln k = ln' k ∧ cnt k = cnt' k ∧ ∀ j, 0 ≤ j → j < ln k → pt k j = pt' k j) : plL n ln pt cnt = plL n ln' pt' cnt' := by
  apply List.ext_getElem?
  intro k
  rw [plL_get, plL_get]
  by_cases hk : (k : Int) < n
  · obtain ⟨h1, h2, h3⟩ := h k (by omega) hk
    rw [if_pos hk, if_pos hk, h2, ← h1, lst_congr h3]
  · rw [if_neg hk, if_neg hk]
theorem plL_next {ln : Int → Int} {pt : Int → Int → Int} {cnt : Int → Int} {i : Int} (i0 : 0 ≤ i) : plL (i + 1) ln pt cnt = plL i ln pt cnt ++ [(lst (ln i) (pt i), cnt i)] := by
  unfold plL
  rw [show (i + 1).toNat = i.toNat + 1 by omega, List.range_succ, List.map_append, List.map_singleton, Int.toNat_of_nonneg i0]
theorem plL_snoc {n : Int} {ln ln' : Int → Int} {pt pt' : Int → Int → Int} {cnt cnt' : Int → Int} (n0 : 0 ≤ n) (h : ∀ k, 0 ≤ k → k < n → ln' k = ln k ∧ cnt' k = cnt k ∧ pt' k = pt k) {l c : Int} {p : Int → Int} (h1 : ln' n = l) (h2 : cnt' n = c) (h3 : pt' n = p) : plL (n + 1) ln' pt' cnt' = plL n ln pt cnt ++ [(lst l p, c)] := by
  rw [plL_next n0, h1, h2, h3]
  congr 1
  exact plL_congr fun k k0 k1 => ⟨(h k k0 k1).1, (h k k0 k1).2.1, fun j _ _ => by rw [(h k k0 k1).2.2]⟩
def addU : Us → List Int × Int → Us
  | [], u => [u]
  | v :: r, u => if v.1 = u.1 then (v.1, v.2 + u.2) :: r else v :: addU r u
def sums (l : Us) : Us := l.foldl addU []
theorem addU_new : ∀ {a : Us} {u : List Int × Int}, (∀ v ∈ a, v.1 ≠ u.1) → addU a u = a ++ [u]
  | [], _, _ => rfl
  | v :: r, u, h => by
    rw [addU, if_neg (h v (by simp)), addU_new fun w hw => h w (by simp [hw])]; rfl
theorem addU_at : ∀ {a : Us} {u : List Int × Int} {j : Nat} {v : List Int × Int}, a[j]? = some v → v.1 = u.1 → (∀ k < j, ∀ w, a[k]? = some w → w.1 ≠ u.1) → addU a u = a.set j (v.1, v.2 + u.2)
  | [], _, _, _, h, _, _ => by simp at h
  | w :: r, u, 0, v, h, e, _ => by
    simp at h; subst h
    rw [addU, if_pos e]; rfl
  | w :: r, u, j + 1, v, h, e, hk => by
    simp at h
    rw [addU, if_neg (hk 0 (by omega) w (by simp)), addU_at h e fun k hk' x hx => hk (k + 1) (by omega) x (by simpa using hx)]; rfl
theorem addU_keys : ∀ {a : Us} {u : List Int × Int}, ∀ x ∈ addU a u, x.1 = u.1 ∨ ∃ y ∈ a, y.1 = x.1
  | [], u, x, h => by simp [addU] at h; exact .inl (by rw [h])
  | v :: r, u, x, h => by
    rw [addU] at h
    split at h
    · rcases List.mem_cons.1 h with h | h
      · right; exact ⟨v, by simp, by rw [h]⟩
      · right; exact ⟨x, by simp [h], rfl⟩
    · rcases List.mem_cons.1 h with h | h
      · right; exact ⟨v, by simp, by rw [h]⟩
      · rcases addU_keys x h with h | ⟨y, hy, e⟩
        · exact .inl h
        · exact .inr ⟨y, by simp [hy], e⟩
theorem addU_dist : ∀ {a : Us} {u : List Int × Int}, a.Pairwise (fun x y => x.1 ≠ y.1) → (addU a u).Pairwise (fun x y => x.1 ≠ y.1)
  | [], u, _ => by simp [addU]
  | v :: r, u, h => by
    have h1 := List.pairwise_cons.1 h
    rw [addU]
    split
    · exact List.pairwise_cons.2 ⟨h1.1, h1.2⟩
    · rename_i hne
      refine List.pairwise_cons.2 ⟨fun x hx => ?_, addU_dist h1.2⟩
      rcases addU_keys x hx with e | ⟨y, hy, e⟩
      · rw [e]; exact hne
      · rw [← e]; exact h1.1 y hy
theorem foldl_dist : ∀ (l a : Us), a.Pairwise (fun x y => x.1 ≠ y.1) → (l.foldl addU a).Pairwise (fun x y => x.1 ≠ y.1)
  | [], _, h => h
  | u :: l, a, h => foldl_dist l _ (addU_dist h)
theorem sums_dist (l : Us) : (sums l).Pairwise (fun x y => x.1 ≠ y.1) := foldl_dist l [] .nil
theorem sums_snoc (l : Us) (u : List Int × Int) : sums (l ++ [u]) = addU (sums l) u := by simp [sums]
theorem addU_pos : ∀ {a : Us} {u : List Int × Int}, (∀ x ∈ a, 1 ≤ x.2) → 1 ≤ u.2 → ∀ x ∈ addU a u, 1 ≤ x.2
  | [], u, _, hu, x, h => by simp [addU] at h; rw [h]; exact hu
  | v :: r, u, ha, hu, x, h => by
    have hv := ha v (by simp)
    rw [addU] at h
    split at h
    · rcases List.mem_cons.1 h with h | h
      · rw [h]; dsimp only; omega
      · exact ha x (by simp [h])
    · rcases List.mem_cons.1 h with h | h
      · rw [h]; exact hv
      · exact addU_pos (fun y hy => ha y (by simp [hy])) hu x h
theorem foldl_pos : ∀ (l a : Us), (∀ x ∈ a, 1 ≤ x.2) → (∀ x ∈ l, 1 ≤ x.2) → ∀ x ∈ l.foldl addU a, 1 ≤ x.2
  | [], _, h, _ => h
  | u :: l, a, h, hl => foldl_pos l _ (addU_pos h (hl u (by simp))) fun x hx => hl x (by simp [hx])
theorem sums_pos {l : Us} (h : ∀ x ∈ l, 1 ≤ x.2) : ∀ x ∈ sums l, 1 ≤ x.2 := foldl_pos l [] (by simp) h
def wsum (f : List Int → Int) : Us → Int
  | [] => 0
  | u :: l => f u.1 * u.2 + wsum f l
theorem wsum_append (f : List Int → Int) : ∀ a b : Us, wsum f (a ++ b) = wsum f a + wsum f b
  | [], b => by simp [wsum]
  | u :: a, b => by simp only [List.cons_append, wsum, wsum_append f a b]; omega
theorem wsum_addU (f : List Int → Int) : ∀ (a : Us) (u : List Int × Int), wsum f (addU a u) = wsum f a + f u.1 * u.2
  | [], u => by simp [addU, wsum]
  | v :: r, u => by
    rw [addU]
    split
    · rename_i e
      simp only [wsum, e, Int.mul_add]; omega
    · simp only [wsum, wsum_addU f r u]; omega
theorem wsum_foldl (f : List Int → Int) : ∀ (l a : Us), wsum f (l.foldl addU a) = wsum f a + wsum f l
  | [], a => by simp [wsum]
  | u :: l, a => by rw [List.foldl_cons, wsum_foldl f l, wsum_addU, wsum]; omega
theorem wsum_sums (f : List Int → Int) (l : Us) : wsum f (sums l) = wsum f l := by rw [sums, wsum_foldl]; simp [wsum]
theorem wsum_perm (f : List Int → Int) {a b : Us} (h : a.Perm b) : wsum f a = wsum f b := by
  induction h with
  | nil => rfl
  | cons x _ ih => simp only [wsum, ih]
  | swap x y l => simp only [wsum]; omega
  | trans _ _ i1 i2 => rw [i1, i2]
def NormR (l out : Us) : Prop := out.Perm (sums l) ∧ out.Pairwise (fun u v => ahd u.1 v.1)
theorem NormR.same {l a b : Us} (h : NormR l a) (k : NormR l b) : a = b :=
  (h.1.trans k.1.symm).eq_of_pairwise (le := fun u v => ahd u.1 v.1) (fun x y _ _ h1 h2 => absurd h2 (ahd_asym h1)) h.2 k.2
theorem NormR.wsum {l a : Us} (h : NormR l a) (f : List Int → Int) : wsum f a = wsum f l := (wsum_perm f h.1).trans (wsum_sums f l)
theorem NormR.pos {l a : Us} (h : NormR l a) (hp : ∀ x ∈ l, 1 ≤ x.2) : ∀ x ∈ a, 1 ≤ x.2 := fun x hx => sums_pos hp x (h.1.mem_iff.1 hx)
theorem sums_keys : ∀ (l a : Us), ∀ x ∈ l.foldl addU a, (∃ y ∈ a, y.1 = x.1) ∨ ∃ y ∈ l, y.1 = x.1
  | [], a, x, h => .inl ⟨x, h, rfl⟩
  | u :: l, a, x, h => by
    rcases sums_keys l _ x h with ⟨y, hy, e⟩ | ⟨y, hy, e⟩
    · rcases addU_keys y hy with e2 | ⟨z, hz, e2⟩
      · exact .inr ⟨u, by simp, by rw [← e2, e]⟩
      · exact .inl ⟨z, hz, by rw [e2, e]⟩
    · exact .inr ⟨y, by simp [hy], e⟩
theorem NormR.keys {l a : Us} (h : NormR l a) : ∀ x ∈ a, ∃ y ∈ l, y.1 = x.1 := fun x hx => by
  rcases sums_keys l [] x (h.1.mem_iff.1 hx) with ⟨y, hy, _⟩ | h
  · simp at hy
  · exact h
theorem names_perm {α : Type} {n : Int} {t : Int → Int} (n0 : 0 ≤ n) (h : PermOn 0 n (fun k => k) t) (G : Int → α) : ((List.range n.toNat).map fun (i : Nat) => G (t (i : Int))).Perm ((List.range n.toNat).map fun (i : Nat) => G (i : Int)) := by
  have h1 : ((List.range n.toNat).map fun (i : Nat) => t (i : Int)).Perm ((List.range n.toNat).map fun (i : Nat) => (i : Int)) := by
    obtain ⟨p, q, e1, e2, e3⟩ := h
    refine (List.perm_ext_iff_of_nodup ?_ ?_).2 fun x => ?_
    · refine List.pairwise_map.2 (List.Pairwise.imp (R := fun a b => a ≠ b) (fun {a b} hab hh => ?_) List.nodup_range)
      rw [e3, e3] at hh
      have := congrArg q hh
      simp only [(e1 _).2] at this
      omega
    · exact List.pairwise_map.2 (List.Pairwise.imp (R := fun a b => a ≠ b) (fun {a b} hab hh => by omega) List.nodup_range)
    · simp only [List.mem_map, List.mem_range]
      constructor
      · rintro ⟨a, ha, rfl⟩
        obtain ⟨j, j0, j1, j2⟩ := PermOn.fr (a := fun k => k) (b := t) ⟨p, q, e1, e2, e3⟩ (show (0 : Int) ≤ (a : Int) by omega) (show (a : Int) < n by omega)
        exact ⟨j.toNat, by omega, by rw [j2]; omega⟩
      · rintro ⟨a, ha, rfl⟩
        obtain ⟨j, j0, j1, j2⟩ := PermOn.fr (PermOn.symm (a := fun k => k) (b := t) ⟨p, q, e1, e2, e3⟩) (show (0 : Int) ≤ (a : Int) by omega) (show (a : Int) < n by omega)
        exact ⟨j.toNat, by omega, by rw [Int.toNat_of_nonneg j0, ← j2]⟩
  have h2 := h1.map G
  simpa [List.map_map, Function.comp_def] using h2
theorem swo_ahd (f : Int → List Int) : Swo (fun x y => ahd (f x) (f y)) :=
  ⟨fun x y h => ahd_asym h, fun x y z h k => ahd_trans h k, fun x y z h k hh => by
    by_cases e : f x = f y
    · rw [e] at hh; exact k hh
    · rcases ahd_tri e with h1 | h1
      · exact h h1
      · exact k (ahd_trans h1 hh)⟩
theorem NormR.of_names {l : Us} {n : Int} {ln : Int → Int} {pt : Int → Int → Int} {cnt t : Int → Int} (n0 : 0 ≤ n) (hs : plL n ln pt cnt = sums l) (hp : PermOn 0 n (fun k => k) t) (ho : Srt (Tie (fun x y => ahd (lst (ln x) (pt x)) (lst (ln y) (pt y)))) 0 n t) :
    NormR l (plL n (fun k => ln (t k)) (fun k => pt (t k)) (fun k => cnt (t k))) := by
  refine ⟨?_, ?_⟩
  · rw [← hs]
    exact names_perm n0 hp fun x => (lst (ln x) (pt x), cnt x)
  · rw [List.pairwise_iff_getElem]
    intro i j hi hj hij
    rw [plL_len] at hi hj
    have g : ∀ (k : Nat) (hk : k < (plL n (fun k => ln (t k)) (fun k => pt (t k)) (fun k => cnt (t k))).length), (plL n (fun k => ln (t k)) (fun k => pt (t k)) (fun k => cnt (t k)))[k] = (lst (ln (t k)) (pt (t k)), cnt (t k)) := fun k hk => by
      have h1 := plL_get n (fun k => ln (t k)) (fun k => pt (t k)) (fun k => cnt (t k)) k
      rw [plL_len] at hk
      rw [if_pos (by omega), List.getElem?_eq_getElem (by rw [plL_len]; exact hk)] at h1
      injection h1
    rw [g, g]
    have h1 := ho i j (by omega) (by omega) (by omega)
    rcases h1 with h1 | ⟨h1, h2⟩
    · exact h1
    · obtain ⟨a, a0, a1, a2⟩ := hp.fr (show (0 : Int) ≤ (i : Int) by omega) (show (i : Int) < n by omega)
      obtain ⟨b, b0, b1, b2⟩ := hp.fr (show (0 : Int) ≤ (j : Int) by omega) (show (j : Int) < n by omega)
      have hd := sums_dist l
      rw [← hs, List.pairwise_iff_getElem] at hd
      have gg : ∀ (k : Int) (k0 : 0 ≤ k) (hk : k < n), ∃ h : k.toNat < (plL n ln pt cnt).length, (plL n ln pt cnt)[k.toNat] = (lst (ln k) (pt k), cnt k) := fun k k0 hk => by
        have h1 := plL_get n ln pt cnt k.toNat
        have h3 : k.toNat < (plL n ln pt cnt).length := by rw [plL_len]; omega
        rw [Int.toNat_of_nonneg k0, if_pos hk, List.getElem?_eq_getElem h3] at h1
        exact ⟨h3, by injection h1⟩
      have hab : a ≠ b := fun e => by rw [← a2, ← b2] at *; omega
      obtain ⟨ha, ea⟩ := gg a a0 a1
      obtain ⟨hb, eb⟩ := gg b b0 b1
      have hne : lst (ln a) (pt a) ≠ lst (ln b) (pt b) := by
        rcases Int.lt_or_gt_of_ne hab with h3 | h3
        · have := hd a.toNat b.toNat ha hb (by omega); rw [ea, eb] at this; exact this
        · have := hd b.toNat a.toNat hb ha (by omega); rw [ea, eb] at this; exact fun e => this e.symm
      rcases ahd_tri hne with h3 | h3
      · dsimp only at a2 b2 ⊢; rw [a2, b2]; exact h3
      · exact absurd (by dsimp only at a2 b2 ⊢; rw [a2, b2]; exact h3) h1
end Go.Proofs.Gw
namespace Go.Proofs.Gw
open Go Go.RowKit
def Frame.dq (E : TypeId) (v : Value) (n : Int) (f : Int → Int) : Frame where
  holds w := 0 ≤ n ∧ n ≤ 140737488355328 ∧ ((v = .slice none 0 0 ∧ n = 0) ∨ ∃ g off cap cur, v = .slice (some ⟨g, off, none⟩) n.toNat cap ∧ w.heap[g]? = some (.cells cur E (0, 0)) ∧ n.toNat ≤ cap ∧ cap ≤ maxLen ∧ off + cap ≤ cur.size ∧
    ∀ k : Nat, (k : Int) < n → cur[off + k]? = some (.int .i64 (f k)))
  has g := ∃ a l c, v = .slice (some a) l c ∧ a.block = g
  keep h hk := by
    obtain ⟨h0, h1, h | ⟨g, off, cap, cur, rfl, hg, h⟩⟩ := h
    · exact ⟨h0, h1, .inl h⟩
    · exact ⟨h0, h1, .inr ⟨g, off, cap, cur, rfl, by rw [hk g ⟨_, _, _, rfl, rfl⟩]; exact hg, h⟩⟩
  lt h hg := by
    obtain ⟨_, _, h | ⟨g, off, cap, cur, rfl, h2, _⟩⟩ := h
    · obtain ⟨rfl, _⟩ := h; obtain ⟨_, _, _, e, _⟩ := hg; cases e
    · obtain ⟨_, _, _, e, rfl⟩ := hg; cases e; exact (Array.getElem?_eq_some_iff.1 h2).1
section
variable {P : Program} {L : List (Nat × Value)} {w w0 : World} {o : Oper} {x y z : Operand} {T T' : TypeId} {l : List Ent} {E : TypeId} {v : Value} {n : Int} {f : Int → Int}
theorem Frame.dq.row (h : (Frame.dq E v n f).holds w) : Row w v 1 n (ints f) := by
  obtain ⟨h0, h1, ⟨rfl, rfl⟩ | ⟨g, off, cap, cur, rfl, hg, _, _, _, hc⟩⟩ := h
  · exact row_nil _ _ _
  · refine ⟨⟨h0, h1, _, _, rfl, .inr ⟨g, off, rfl⟩⟩, fun k hk => ?_⟩
    have hk2 : (k : Int) < n := by omega
    have := hc k hk2
    show w.cell? ⟨g, off + (k : Int).toNat, none⟩ = _
    rw [cell_of_row w g _ cur E (0, 0) hg]
    rw [show (k : Int).toNat = k by omega, this]; rfl
theorem Frame.dq.roomy (h : (Frame.dq E v n f).holds w) : Roomy v := fun a len cap e => by
  obtain ⟨_, _, ⟨rfl, _⟩ | ⟨g, off, cap', cur, rfl, _, h2, _⟩⟩ := h
  · cases e; omega
  · cases e; exact h2
theorem Sat.resem {F G : Frame} (h : Sat w0 w l) (i : Nat) (hi : l[i]? = some (.sem F)) (hG : F.holds w → G.holds w) (hh : ∀ g, G.has g → F.has g) : Sat w0 w (l.set i (.sem G)) := by
  have h' := h
  rw [split_at hi] at h'
  rw [set_at hi]
  exact h'.turn (d := .sem F) (fun k _ _ => rfl) rfl rfl rfl (Nat.le_refl _) (hG (h.holds _ (List.mem_of_getElem? hi))) (fun g hg => .inl (hh g hg))
end
end Go.Proofs.Gw
namespace Go.Proofs.Gw
open Go Go.RowKit
section
variable {P : Program} {L : List (Nat × Value)} {w w0 : World} {o : Oper} {x y : Operand} {T T' : TypeId} {l : List Ent}
theorem xshr1 {m r : Int} (ho : o.op = .binOp .shr T x y T' := by exact rfl) (hx : evL L x = some (.int .u64 m) := by exact rfl) (hy : evL L y = some (.int .u64 1) := by exact rfl) (e : r = m / 2 := by exact rfl) : Runs P L w o (.value (.int .u64 r)) w := fun ρ h => by
  subst e
  simp [execOp, ho, h _ _ hx, h _ _ hy, go_sem]
theorem cad_addx (v : Value) (k : Int) (h0 : 0 ≤ k) : (cad v k).add 1 = cad v (k + 1) ∨ ∀ a len cap, v ≠ .slice (some a) len cap := by
  cases v with
  | slice a len cap => cases a with
    | none => right; intro a len cap h; cases h
    | some a =>
      left
      have : (k + 1).toNat = k.toNat + 1 := by omega
      simp [cad, Addr.add, this, Nat.add_assoc]
  | _ => right; intro a len cap h; cases h
theorem xso2 (j : Nat) {v u0 u1 : Value} {E : TypeId} {n k : Int} {c d : Int → Value} (ht : structT P T = some 2) (hS : Sat w0 w l) (e : upd (upd c k u0) (k + 1) u1 = d) (ho : o.op = .store T x y := by exact rfl) (hi : l[j]? = some (.own v 2 E n c) := by exact rfl) (hx : evL L x = some (.pointer (some (cad v k))) := by exact rfl) (hy : evL L y = some (.agg #[u0, u1]) := by exact rfl)
    (hv : u0.oneCell' = true := by exact rfl) (hu : u1.oneCell' = true := by exact rfl) (h0 : 0 ≤ k := by omega) (h1 : k + 1 < n * 2 := by omega) : ∃ w', Runs P L w o .skip w' ∧ Sat w0 w' (l.set j (.own v 2 E n d)) := by
  subst e
  obtain ⟨_, hsz⟩ := struct_of (w := w) ht
  have hS' := hS
  rw [split_at hi] at hS'
  have hr0 := hS'.get.row
  have hadd : (cad v k).add 1 = cad v (k + 1) := by
    rcases cad_addx v k h0 with h | h
    · exact h
    · exfalso
      obtain ⟨q0, q1, a, cap, rfl, hz⟩ := hr0.slh
      rcases hz with hz | ⟨b, off, rfl⟩
      · omega
      · exact h _ _ _ rfl
  have hadd0 : (cad v k).add 0 = cad v k := by simp [Addr.add]
  have c0 := hr0.cell h0 (by omega)
  have f0 : w.frozen? (cad v k) = false := by
    rcases hS'.get.freeRow k with h | h
    · exact absurd h (by
        obtain ⟨q0, q1, a, cap, rfl, hz⟩ := hr0.slh
        rcases hz with hz | ⟨b, off, rfl⟩
        · omega
        · intro hh; cases hh)
    · exact h
  have hS1 := hS'.setOwn k h0 (by omega) u0
  have hr1 := hS1.get.row
  have c1 := hr1.cell (k := k + 1) (by omega) (by omega)
  have f1 : (w.setCell (cad v k) u0).frozen? (cad v (k + 1)) = false := by
    rcases hS1.get.freeRow (k + 1) with h | h
    · exact absurd h (by
        obtain ⟨q0, q1, a, cap, rfl, hz⟩ := hr0.slh
        rcases hz with hz | ⟨b, off, rfl⟩
        · omega
        · intro hh; cases hh)
    · exact h
  have hS2 := hS1.setOwn (k + 1) (by omega) (by omega) u1
  rw [set_at hi]
  refine ⟨_, fun ρ h => ?_, hS2⟩
  simp [execOp, ho, h _ _ hx, h _ _ hy, Instr.storeAt, Instr.sureAddr, storeVar, Value.cells, hsz, storeCells, hadd0, hadd, run_store P w _ u0 _ hv, c0, f0, run_store P _ _ u1 _ hu, c1, f1]
end
theorem upd_use (pv : Int → Value) (cnt : Int → Int) {i k : Int} (s : Value) (x : Int) (h : k = 2 * i) : upd (upd (ucells pv cnt) k s) (k + 1) (.int .i64 x) = ucells (fun q => if q = i then s else pv q) (fun q => if q = i then x else cnt q) := by
  subst h
  funext q
  unfold upd ucells
  by_cases h1 : q = 2 * i + 1
  · subst h1; rw [if_pos rfl, if_neg (by omega)]; dsimp only; rw [if_pos (by omega)]
  · rw [if_neg h1]
    by_cases h2 : q = 2 * i
    · subst h2; rw [if_pos rfl, if_pos (by omega)]; dsimp only; rw [if_pos (by omega)]
    · rw [if_neg h2]
      by_cases h3 : q % 2 = 0
      · rw [if_pos h3, if_pos h3]; dsimp only; rw [if_neg (by omega)]
      · rw [if_neg h3, if_neg h3]; dsimp only; rw [if_neg (by omega)]
theorem ucells_swp (pv : Int → Value) (cnt s : Int → Int) (i j : Int) : ucells (fun q => if q = j then pv (s i) else (fun q => if q = i then pv (s j) else (fun k => pv (s k)) q) q) (fun q => if q = j then cnt (s i) else (fun q => if q = i then cnt (s j) else (fun k => cnt (s k)) q) q) = ucells (fun k => pv (swp s i j k)) (fun k => cnt (swp s i j k)) := by
  congr 1
  · funext q; unfold swp; dsimp only
    by_cases h1 : q = j
    · rw [if_pos h1]
      by_cases h2 : q = i
      · rw [if_pos h2]; congr 2; omega
      · rw [if_neg h2, if_pos h1]
    · rw [if_neg h1]
      by_cases h2 : q = i
      · rw [if_pos h2, if_pos h2]
      · rw [if_neg h2, if_neg h2, if_neg h1]
  · funext q; unfold swp; dsimp only
    by_cases h1 : q = j
    · rw [if_pos h1]
      by_cases h2 : q = i
      · rw [if_pos h2]; congr 2; omega
      · rw [if_neg h2, if_pos h1]
    · rw [if_neg h1]
      by_cases h2 : q = i
      · rw [if_pos h2, if_pos h2]
      · rw [if_neg h2, if_neg h2, if_neg h1]
theorem ints_swp (s : Int → Int) (i j : Int) : upd (upd (ints s) i (.int .i64 (s j))) j (.int .i64 (s i)) = ints (swp s i j) := by
  funext q; unfold upd ints swp
  by_cases h1 : q = j
  · rw [if_pos h1]
    by_cases h2 : q = i
    · rw [if_pos h2]; congr 2; omega
    · rw [if_neg h2, if_pos h1]
  · rw [if_neg h1]
    by_cases h2 : q = i
    · rw [if_pos h2, if_pos h2]
    · rw [if_neg h2, if_neg h2, if_neg h1]
theorem PermOn.inj {lo hi : Int} {t : Int → Int} (h : PermOn lo hi (fun k => k) t) {i j : Int} (e : t i = t j) : i = j := by
  obtain ⟨p, q, e1, e2, e3⟩ := h
  rw [e3, e3] at e
  have := congrArg q e
  rwa [(e1 _).2, (e1 _).2] at this
theorem Sat.pmrows {w0 w : World} {l : List Ent} (h : Sat w0 w l) (i : Nat) {E : TypeId} {n : Int} {vv : Int → Value} {ln : Int → Int} {f : Int → Int → Int} {t : Int → Int} (hp : PermOn 0 n (fun k => k) t) (hi : l[i]? = some (.sem (Frame.rows E n vv ln f)) := by exact rfl) :
    Sat w0 w (l.set i (.sem (Frame.rows E n (fun k => vv (t k)) (fun k => ln (t k)) (fun k => f (t k))))) :=
  h.resem i hi (fun ⟨h1, h2⟩ => ⟨fun k k0 k1 => by
      obtain ⟨j, j0, j1, j2⟩ := hp.fr k0 k1
      have e : t k = j := j2
      show (Ent.own (vv (t k)) 1 E (ln (t k)) (ints (f (t k)))).holds w
      rw [e]; exact h1 j j0 j1, fun a b a0 a1 b0 b1 hab g hg hg' => by
      obtain ⟨j, j0, j1, j2⟩ := hp.fr a0 a1
      obtain ⟨k, k0, k1, k2⟩ := hp.fr b0 b1
      exact h2 (t a) (t b) (by rw [j2]; exact j0) (by rw [j2]; exact j1) (by rw [k2]; exact k0) (by rw [k2]; exact k1) (fun e => hab (hp.inj e)) g hg hg'⟩)
    (fun g ⟨a, a0, a1, hg⟩ => by
      obtain ⟨j, j0, j1, j2⟩ := hp.fr a0 a1
      exact ⟨t a, by rw [j2]; exact j0, by rw [j2]; exact j1, hg⟩)
theorem gsn_one {f : Int → Value} {n : Int} {x : Value} (h : ∀ k, (f k).oneCell' = true) (hx : x.oneCell' = true) : ∀ k, (gsn f n x k).oneCell' = true := fun k => by
  unfold gsn; split
  · exact h k
  · exact hx
end Go.Proofs.Gw
namespace Go.Proofs.Ytopmifmfecfaaaa
open Go Go.RowKit Go.Proofs.Gw
theorem cl_100 : calledT Try.prog 100 = true := by kernel_rfl
theorem cl_101 : calledT Try.prog 101 = true := by kernel_rfl
theorem cl_102 : calledT Try.prog 102 = true := by kernel_rfl
theorem cl_103 : calledT Try.prog 103 = true := by kernel_rfl
theorem cl_116 : calledT Try.prog 116 = true := by kernel_rfl
theorem cl_117 : calledT Try.prog 117 = true := by kernel_rfl
theorem cl_125 : calledT Try.prog 125 = true := by kernel_rfl
theorem cl_126 : calledT Try.prog 126 = true := by kernel_rfl
theorem cl_127 : calledT Try.prog 127 = true := by kernel_rfl
theorem cl_133 : calledT Try.prog 133 = true := by kernel_rfl
theorem cl_137 : calledT Try.prog 137 = true := by kernel_rfl
theorem cl_96 : calledT Try.prog 96 = true := by kernel_rfl
theorem cl_97 : calledT Try.prog 97 = true := by kernel_rfl
theorem cl_98 : calledT Try.prog 98 = true := by kernel_rfl
theorem cl_99 : calledT Try.prog 99 = true := by kernel_rfl
theorem fd_50_0 : fieldT Try.prog 50 0 = some 0 := by kernel_rfl
theorem fd_50_1 : fieldT Try.prog 50 1 = some 1 := by kernel_rfl
theorem sl_42 : sliceT Try.prog 42 = some (50, 2) := by kernel_rfl
set_option maxRecDepth 20000 in
theorem c_swrU {vd : Value} {n : Int} {s : Int → Int} {pv : Int → Value} {cnt : Int → Int} {F : Go.Proofs.Gw.Frame} {a b m : Int} (w0 w : World) (hS : Sat w0 w [.own vd 2 50 n (ucells (fun z9 => pv (s z9)) (fun z9 => cnt (s z9))), .sem F]) (hsl : Slh vd n) (hn8 : n ≤ 100000000) (hone : ∀ x, (pv x).oneCell' = true) (a0 : 0 ≤ a) (m0 : 0 ≤ m) (ab : a + m ≤ b) (bn : b + m ≤ n) :
    Calls Try.prog 137 [vd, .int .i64 a, .int .i64 b, .int .i64 m, .func (.func 102) #[] #[]].toArray w fun e w => ∃ v, e = .returned v ∧ v = .tuple #[] ∧ Sat w0 w [.own vd 2 50 n (ucells (fun z9 => pv ((swr s a b m) z9)) (fun z9 => cnt ((swr s a b m) z9))), .sem F] := by
  refine zenF Try.func137 Try.ntmps137 ?_
  refine zsr ?_
  refine zlv xas ?_
  refine zlt <| zbk <| zlp (fun mm M w => ∃ (t : Int → Int) (i : Int), mm = ((m - i).toNat) ∧ (0 ≤ i) ∧ (i ≤ m) ∧ (t = swr s a b i) ∧ M = [(0, vd), (1, .int .i64 a), (2, .int .i64 b), (3, .int .i64 m), (10, .int .i64 i)] ∧ Sat w0 w [.own vd 2 50 n (ucells (fun z9 => pv (t z9)) (fun z9 => cnt (t z9))), .sem F]) ⟨s, 0, rfl, (by omega), (by omega), ?_, rfl, hS⟩ ?_
  ·
   exact (swr_zero s a b).symm
  clear hS w
  rintro mm M w ⟨t, i, rfl, i0, i1, ht, rfl, hS⟩
  refine zsq <| zsr ?_
  refine zs3 ?_
  refine zlt ?_
  refine zcif ?_ ?_ <;> intro hc
  ·
   refine zsk <| ztn <| zsq <| zbk ?_
   refine zdst [0, 1] [1] 21 mx_ hS ?_; clear hS; intro w hS
   refine zdv 0 (fun _ => xmv) ?_
   refine zdv 1 (fun _ => xmv) ?_
   refine zdv 2 (fun _ => xmv) ?_
   refine zdv 3 (fun _ => (xadd (r := a + i))) ?_
   refine zdv 4 (fun _ => xmv) ?_
   refine zdv 5 (fun _ => xmv) ?_
   refine zdv 6 (fun _ => xmv) ?_
   refine zdv 7 (fun _ => (xadd (r := b + i))) ?_
   refine zdv 8 (fun _ => xmv) ?_
   refine zdv 9 (fun _ => xmv) ?_
   refine zdv 10 (fun _ => xmv) ?_
   refine zdv 11 (fun _ => (xadd (r := b + i))) ?_
   refine zdv 12 (fun _ => (xix (kk := 2 * b + 2 * i) sl_42 hsl)) ?_
   refine zdl 13 (fun w hS => (xlw (cs := [(pv (t (b + i))), .int .i64 (cnt (t (b + i)))]) st_50 (hS.rowN 0 rfl) (ucells_at (k := 2 * b + 2 * i) (i := b + i) (fun z9 => pv (t z9)) (fun z9 => cnt (t z9)) (by omega)))) ?_
   refine zdv 14 (fun _ => xmv) ?_
   refine zdv 15 (fun _ => xmv) ?_
   refine zdv 16 (fun _ => xmv) ?_
   refine zdv 17 (fun _ => (xadd (r := a + i))) ?_
   refine zdv 18 (fun _ => (xix (kk := 2 * a + 2 * i) sl_42 hsl)) ?_
   refine zdl 19 (fun w hS => (xlw (cs := [(pv (t (a + i))), .int .i64 (cnt (t (a + i)))]) st_50 (hS.rowN 0 rfl) (ucells_at (k := 2 * a + 2 * i) (i := a + i) (fun z9 => pv (t z9)) (fun z9 => cnt (t z9)) (by omega)))) ?_
   refine zdv 20 (fun _ => (xix (kk := 2 * a + 2 * i) sl_42 hsl)) ?_
   refine zde 21 (xso2 0 st_50 hS (upd_use (i := a + i) (k := 2 * a + 2 * i) _ _ _ _ (by omega)) (hv := hone _)) ?_; clear hS; rintro w hS
   replace hS := hS.n2
   refine ⟨⟨fun h => absurd h (by decide), hS.pk [1]⟩, ?_⟩
   refine zdv 22 (fun _ => (xix (kk := 2 * b + 2 * i) sl_42 hsl)) ?_
   refine zde 23 (xso2 0 st_50 hS (Eq.trans (upd_use (i := b + i) (k := 2 * b + 2 * i) _ _ _ _ (by omega)) (ucells_swp pv cnt t (a + i) (b + i))) (hv := hone _)) ?_; clear hS; rintro w hS
   replace hS := hS.n2
   refine ⟨⟨fun h => absurd h (by decide), hS.pk [1]⟩, ?_⟩
   refine zdd <| zbn <| ztn <| zrg ?_
   refine zlv xmv ?_
   refine zlv (xadd (r := i + 1)) ?_
   refine zlv xas ?_
   refine zln <| zlq ⟨swp t (a + i) (b + i), i + 1, rfl, (by omega), (by omega), ?_, rfl, hS⟩
   ·
    rw [ht]; exact swr_next i0 (by omega) (by omega) (by omega)
  refine zxt <| ztx <| ztx <| zbh <| zfn0 ⟨_, rfl, ?_⟩
  obtain rfl : i = m := by omega
  subst ht
  exact ⟨rfl, hS⟩
set_option maxRecDepth 20000 in
theorem c_rotU {vd : Value} {n : Int} {s : Int → Int} {pv : Int → Value} {cnt : Int → Int} {F : Go.Proofs.Gw.Frame} {a m b : Int} (w0 w : World) (hS : Sat w0 w [.own vd 2 50 n (ucells (fun z9 => pv (s z9)) (fun z9 => cnt (s z9))), .sem F]) (hsl : Slh vd n) (hn8 : n ≤ 100000000) (hone : ∀ x, (pv x).oneCell' = true) (a0 : 0 ≤ a) (am : a < m) (mb : m < b) (bn : b ≤ n) :
    Calls Try.prog 133 [vd, .int .i64 a, .int .i64 m, .int .i64 b, .func (.func 102) #[] #[]].toArray w fun e w => ∃ v, e = .returned v ∧ v = .tuple #[] ∧ Sat w0 w [.own vd 2 50 n (ucells (fun z9 => pv ((rot s a m b) z9)) (fun z9 => cnt ((rot s a m b) z9))), .sem F] := by
  refine zenF Try.func133 Try.ntmps133 ?_
  refine zsr ?_
  refine zs2 ?_
  refine zlv (xsub (r := m - a)) ?_
  refine zlv xas ?_
  refine zlz ?_
  refine zs2 ?_
  refine zlv (xsub (r := b - m)) ?_
  refine zlv xas ?_
  refine zlt <| zsq <| zbk <| zlp (fun mm M w => ∃ (t : Int → Int) (i : Int) (j : Int), mm = ((i + j).toNat) ∧ (1 ≤ i) ∧ (1 ≤ j) ∧ (a ≤ m - i) ∧ (m + j ≤ b) ∧ (rot t (m - i) m (m + j) = rot s a m b) ∧ M = [(0, vd), (2, .int .i64 m), (4, .func (.func 102) #[] #[]), (10, .int .i64 i), (11, .int .i64 j)] ∧ Sat w0 w [.own vd 2 50 n (ucells (fun z9 => pv (t z9)) (fun z9 => cnt (t z9))), .sem F]) ⟨s, m - a, b - m, rfl, (by omega), (by omega), (by omega), (by omega), ?_, rfl, hS⟩ ?_
  ·
   rw [show m - (m - a) = a by omega, show m + (b - m) = b by omega]
  clear hS w
  rintro mm M w ⟨t, i, j, rfl, i0, j0, ia, jb, hr, rfl, hS⟩
  refine zsq <| zsr ?_
  refine zs3 ?_
  refine zlt ?_
  refine zcif ?_ ?_ <;> intro hc
  ·
   refine zsk <| ztn <| zbk <| zsr ?_
   refine zs3 ?_
   refine zlt ?_
   refine zcif ?_ ?_ <;> intro hc
   ·
    refine zsr ?_
    refine zs3 ?_
    refine zlv (xsub (r := m - i)) ?_
    refine zs3 ?_
    refine zlc (xc0 cl_137) (c_swrU (s := t) (a := m - i) (b := m) (m := j) w0 w hS hsl hn8 hone (by omega) (by omega) (by omega) (by omega)) ?_; rintro _ w ⟨rfl, hS⟩
    replace hS := hS.n2
    refine zlt <| zrg ?_
    refine zs2 ?_
    refine zlv (xsub (r := i - j)) ?_
    refine zlv xas ?_
    refine zln <| zbn <| zlq ⟨(swr t (m - i) m j), i - j, j, rfl, (by omega), (by omega), (by omega), (by omega), ?_, rfl, hS⟩
    ·
     first | (rw [← hr, show m - (i - j) = m - i + j by omega]; exact rot_left (by omega) (by omega)) | (rw [← hr, show m + (j - i) = m + j - i by omega]; exact rot_right (by omega) (by omega))
   refine zsr ?_
   refine zs3 ?_
   refine zlv (xsub (r := m - i)) ?_
   refine zs2 ?_
   refine zlv (xadd (r := m + j)) ?_
   refine zlv xmv ?_
   refine zlv (xsub (r := m + j - i)) ?_
   refine zs2 ?_
   refine zlc (xc0 cl_137) (c_swrU (s := t) (a := m - i) (b := m + j - i) (m := i) w0 w hS hsl hn8 hone (by omega) (by omega) (by omega) (by omega)) ?_; rintro _ w ⟨rfl, hS⟩
   replace hS := hS.n2
   refine zlt <| zrg ?_
   refine zs2 ?_
   refine zlv (xsub (r := j - i)) ?_
   refine zlv xas ?_
   refine zln <| zbn <| zlq ⟨(swr t (m - i) (m + j - i) i), i, j - i, rfl, (by omega), (by omega), (by omega), (by omega), ?_, rfl, hS⟩
   ·
    first | (rw [← hr, show m - (i - j) = m - i + j by omega]; exact rot_left (by omega) (by omega)) | (rw [← hr, show m + (j - i) = m + j - i by omega]; exact rot_right (by omega) (by omega))
  refine zxt <| ztx <| ztx <| zbh <| ztn <| zrg ?_
  refine zs3 ?_
  refine zlv (xsub (r := m - i)) ?_
  refine zs3 ?_
  refine zlc (xc0 cl_137) (c_swrU (s := t) (a := m - i) (b := m) (m := i) w0 w hS hsl hn8 hone (by omega) (by omega) (by omega) (by omega)) ?_; rintro _ w ⟨rfl, hS⟩
  replace hS := hS.n2
  refine zln <| zfn0 ⟨_, rfl, ?_⟩
  have hz : (swr t (m - i) m i) = rot s a m b := by
    rw [← hr, show j = i by omega]; exact rot_even (by omega)
  rw [hz] at hS
  exact ⟨rfl, hS⟩
set_option maxRecDepth 20000 in
theorem c_insU {vd : Value} {n nm : Int} {s : Int → Int} {pv : Int → Value} {cnt : Int → Int} {lt : Int → Int → Prop} {F : Go.Proofs.Gw.Frame} {a b : Int} (w0 w : World) (hS : Sat w0 w [.own vd 2 50 n (ucells (fun z9 => pv (s z9)) (fun z9 => cnt (s z9))), .sem F]) (hsl : Slh vd n) (hn8 : n ≤ 100000000) (hone : ∀ x, (pv x).oneCell' = true) (hcmp : ∀ (w : World) (x y : Int), 0 ≤ x → x < nm → 0 ≤ y → y < nm → Below w0.heap.size w0 w → F.holds w → Calls Try.prog 102 [.agg #[pv x, .int .i64 (cnt x)], .agg #[pv y, .int .i64 (cnt y)]].toArray w fun e w' => ∃ v, e = .returned v ∧ ∃ c : Int, v = .int .i64 c ∧ (c < 0 ↔ lt x y) ∧ Sat w w' []) (hd : ∀ k, 0 ≤ k → k < n → 0 ≤ s k ∧ s k < nm) (hw : Swo lt) (a0 : 0 ≤ a) (ab : a ≤ b) (bn : b ≤ n) (hinc : Incr a b s) :
    Calls Try.prog 125 [vd, .int .i64 a, .int .i64 b, .func (.func 102) #[] #[]].toArray w fun e w => ∃ v, e = .returned v ∧ v = .tuple #[] ∧ ∃ t : Int → Int, PermOn a b s t ∧ Srt (Tie lt) a b t ∧ Sat w0 w [.own vd 2 50 n (ucells (fun z9 => pv (t z9)) (fun z9 => cnt (t z9))), .sem F] := by
  refine zenF Try.func125 Try.ntmps125 ?_
  refine zsr ?_
  refine zlv xmv ?_
  refine zlv (xadd (r := a + 1)) ?_
  refine zlv xas ?_
  refine zlt <| zbk <| zlp (fun mm M w => ∃ (t : Int → Int) (i : Int), mm = ((b - i).toNat) ∧ (a + 1 ≤ i) ∧ (i ≤ b ∨ i = a + 1) ∧ (PermOn a i s t) ∧ (Srt (Tie lt) a i t) ∧ (∀ k, 0 ≤ k → k < n → 0 ≤ t k ∧ t k < nm) ∧ M = [(0, vd), (1, .int .i64 a), (2, .int .i64 b), (3, .func (.func 102) #[] #[]), (8, .int .i64 i)] ∧ Sat w0 w [.own vd 2 50 n (ucells (fun z9 => pv (t z9)) (fun z9 => cnt (t z9))), .sem F]) ⟨s, a + 1, rfl, (by omega), (by omega), ?_, ?_, ?_, rfl, hS⟩ ?_
  ·
   exact .refl _ _ _
  ·
   intro p q p0 pq q1; omega
  ·
   exact hd
  clear hS w
  rintro mm M w ⟨t, i, rfl, i0, i1, hp, hs, hd1, rfl, hS⟩
  refine zsq <| zsr ?_
  refine zs3 ?_
  refine zlt ?_
  refine zcif ?_ ?_ <;> intro hc
  ·
   refine zsk <| ztn <| zsq <| zbk <| zsr ?_
   refine zs2 ?_
   refine zlt <| zbk <| zlp (fun mm M w => ∃ (t2 : Int → Int) (j : Int), mm = ((j - a).toNat) ∧ (a ≤ j) ∧ (j ≤ i) ∧ (Ins lt a i j t t2) ∧ (∀ k, 0 ≤ k → k < n → 0 ≤ t2 k ∧ t2 k < nm) ∧ M = [(0, vd), (1, .int .i64 a), (2, .int .i64 b), (3, .func (.func 102) #[] #[]), (8, .int .i64 i), (9, .int .i64 j)] ∧ Sat w0 w [.own vd 2 50 n (ucells (fun z9 => pv (t2 z9)) (fun z9 => cnt (t2 z9))), .sem F]) ⟨t, i, rfl, (by omega), (by omega), ?_, ?_, rfl, hS⟩ ?_
   ·
    exact Ins.start (by omega) hs (ins_big hp hinc (by omega))
   ·
    exact hd1
   clear hS w
   rintro mm M w ⟨t2, j, rfl, j0, j1, hI, hd2, rfl, hS⟩
   refine zsq <| zsq ?_
   refine zdst [0, 1] [0, 1] 1000 mx_ hS ?_; clear hS; intro w hS
   refine zdv 0 (fun _ => xmv) ?_
   refine zdv 1 (fun _ => xmv) ?_
   refine zdv 2 (fun _ => xgtr) ?_
   refine zdv 3 (fun _ => xmv) ?_
   refine zdb 21 ?_ ?_ <;> intro hc
   ·
    refine zdv 4 (fun _ => xmv) ?_
    refine zdv 5 (fun _ => xmv) ?_
    refine zdv 6 (fun _ => xmv) ?_
    refine zdv 7 (fun _ => (xix (kk := 2 * j) sl_42 hsl)) ?_
    refine zdla 8 (fun w hS => (xlw (cs := [(pv (t2 j)), .int .i64 (cnt (t2 j))]) st_50 (hS.rowN 0 rfl) (ucells_at (k := 2 * j) (i := j) (fun z9 => pv (t2 z9)) (fun z9 => cnt (t2 z9)) (by omega)))) ?_
    refine zdv 9 (fun _ => xmv) ?_
    refine zdv 10 (fun _ => xmv) ?_
    refine zdv 11 (fun _ => (xsub (r := j - 1))) ?_
    refine zdv 12 (fun _ => (xix (kk := 2 * j - 2) sl_42 hsl)) ?_
    refine zdla 13 (fun w hS => (xlw (cs := [(pv (t2 (j - 1))), .int .i64 (cnt (t2 (j - 1)))]) st_50 (hS.rowN 0 rfl) (ucells_at (k := 2 * j - 2) (i := j - 1) (fun z9 => pv (t2 z9)) (fun z9 => cnt (t2 z9)) (by omega)))) ?_
    refine zdc 14 (xc0 cl_102) (hcmp w (t2 j) (t2 (j - 1)) (hd2 j (by omega) (by omega)).1 (hd2 j (by omega) (by omega)).2 (hd2 (j - 1) (by omega) (by omega)).1 (hd2 (j - 1) (by omega) (by omega)).2 hS.below (hS.holds _ (List.mem_of_getElem? (i := 1) rfl))) ?_; rintro _ w ⟨c1, rfl, hc1, hS'⟩
    replace hS := hS.cmp hS'; clear hS'
    refine ⟨⟨fun _ => hS, hS⟩, ?_⟩
    refine zdv 15 (fun _ => xlss) ?_
    refine zdv 16 (fun _ => xpt) ?_
    refine zdd <| ztn ?_
    refine zcif ?_ ?_ <;> intro hc
    ·
     refine zsk <| ztn <| zsq <| zbk ?_
     refine zdst [0, 1] [1] 15 mx_ hS ?_; clear hS; intro w hS
     refine zdv 0 (fun _ => xmv) ?_
     refine zdv 1 (fun _ => xmv) ?_
     refine zdv 2 (fun _ => xmv) ?_
     refine zdv 3 (fun _ => xmv) ?_
     refine zdv 4 (fun _ => (xsub (r := j - 1))) ?_
     refine zdv 5 (fun _ => xmv) ?_
     refine zdv 6 (fun _ => xmv) ?_
     refine zdv 7 (fun _ => (xsub (r := j - 1))) ?_
     refine zdv 8 (fun _ => (xix (kk := 2 * j - 2) sl_42 hsl)) ?_
     refine zdl 9 (fun w hS => (xlw (cs := [(pv (t2 (j - 1))), .int .i64 (cnt (t2 (j - 1)))]) st_50 (hS.rowN 0 rfl) (ucells_at (k := 2 * j - 2) (i := j - 1) (fun z9 => pv (t2 z9)) (fun z9 => cnt (t2 z9)) (by omega)))) ?_
     refine zdv 10 (fun _ => xmv) ?_
     refine zdv 11 (fun _ => xmv) ?_
     refine zdv 12 (fun _ => (xix (kk := 2 * j) sl_42 hsl)) ?_
     refine zdl 13 (fun w hS => (xlw (cs := [(pv (t2 j)), .int .i64 (cnt (t2 j))]) st_50 (hS.rowN 0 rfl) (ucells_at (k := 2 * j) (i := j) (fun z9 => pv (t2 z9)) (fun z9 => cnt (t2 z9)) (by omega)))) ?_
     refine zdv 14 (fun _ => (xix (kk := 2 * j) sl_42 hsl)) ?_
     refine zde 15 (xso2 0 st_50 hS (upd_use (i := j) (k := 2 * j) _ _ _ _ (by omega)) (hv := hone _)) ?_; clear hS; rintro w hS
     replace hS := hS.n2
     refine ⟨⟨fun h => absurd h (by decide), hS.pk [1]⟩, ?_⟩
     refine zdv 16 (fun _ => (xix (kk := 2 * j - 2) sl_42 hsl)) ?_
     refine zde 17 (xso2 0 st_50 hS (Eq.trans (upd_use (i := j - 1) (k := 2 * j - 2) _ _ _ _ (by omega)) (ucells_swp pv cnt t2 j (j - 1))) (hv := hone _)) ?_; clear hS; rintro w hS
     replace hS := hS.n2
     refine ⟨⟨fun h => absurd h (by decide), hS.pk [1]⟩, ?_⟩
     refine zdd <| zbn <| ztn <| zrg ?_
     refine zlv xmv ?_
     refine zlv (xsub (r := j - 1)) ?_
     refine zlv xas ?_
     refine zln <| zlq ⟨swp t2 j (j - 1), j - 1, rfl, (by omega), (by omega), ?_, ?_, rfl, hS⟩
     ·
      exact hI.step (by omega) (by omega) (hc1.1 ‹c1 < 0›)
     ·
      exact (swp_perm (lo := a) (hi := n) (by omega) (by omega) (by omega) (by omega)).dom a0 (.inl (by omega)) hd2
    refine zxt <| ztx <| ztx <| zbh <| zbn <| ztn <| zrg ?_
    refine zlv xmv ?_
    refine zlv (xadd (r := i + 1)) ?_
    refine zlv xas ?_
    refine zln <| zlq ⟨t2, i + 1, rfl, (by omega), (by omega), ?_, ?_, ?_, rfl, hS⟩
    ·
     exact (hp.mono (by omega) (by omega)).trans hI.perm
    ·
     exact hI.fin hw (by omega) (by omega) (by first | exact .inl (by omega) | exact .inr fun h => absurd (hc1.2 h) ‹¬ c1 < 0›)
    ·
     exact hd2
   refine zdof 4 ?_
   refine zdof 5 ?_
   refine zdof 6 ?_
   refine zdof 7 ?_
   refine zdof 8 ?_
   refine zdof 9 ?_
   refine zdof 10 ?_
   refine zdof 11 ?_
   refine zdof 12 ?_
   refine zdof 13 ?_
   refine zdof 14 ?_
   refine zdof 15 ?_
   refine zdv 16 (fun _ => xpf) ?_
   refine zdd <| ztn <| zcf <| zxt <| ztx <| ztx <| zbh <| zbn <| ztn <| zrg ?_
   refine zlv xmv ?_
   refine zlv (xadd (r := i + 1)) ?_
   refine zlv xas ?_
   refine zln <| zlq ⟨t2, i + 1, rfl, (by omega), (by omega), ?_, ?_, ?_, rfl, hS⟩
   ·
    exact (hp.mono (by omega) (by omega)).trans hI.perm
   ·
    exact hI.fin hw (by omega) (by omega) (by first | exact .inl (by omega) | exact .inr fun h => absurd (hc1.2 h) ‹¬ c1 < 0›)
   ·
    exact hd2
  refine zxt <| ztx <| ztx <| zbh <| zfn0 ⟨_, rfl, ?_⟩
  refine ⟨rfl, t, ?_, ?_, hS⟩
  · by_cases hab : i ≤ b
    · exact hp.mono (by omega) (by omega)
    · obtain ⟨p_, q_, e1, e2, e3⟩ := hp
      exact ⟨p_, q_, e1, fun k hk => by
        by_cases hka : k = a
        · subst hka
          apply Classical.byContradiction; intro hne
          have h5 := e2 (p_ k) (by omega)
          have h6 := congrArg q_ h5
          rw [(e1 _).2, (e1 _).2] at h6; exact hne h6
        · exact e2 k (by omega), e3⟩
  · exact hs.mono (by omega) (by omega)
set_option maxHeartbeats 4000000 in
set_option maxRecDepth 20000 in
theorem c_symU {vd : Value} {n nm : Int} {pv : Int → Value} {cnt : Int → Int} {lt : Int → Int → Prop} {F : Go.Proofs.Gw.Frame} (hsl : Slh vd n) (hn8 : n ≤ 100000000) (hone : ∀ x, (pv x).oneCell' = true) (hw : Swo lt) (N : Nat) : ∀ {s : Int → Int} {a m b : Int} (w0 w : World) (hS : Sat w0 w [.own vd 2 50 n (ucells (fun z9 => pv (s z9)) (fun z9 => cnt (s z9))), .sem F]) (hcmp : ∀ (w : World) (x y : Int), 0 ≤ x → x < nm → 0 ≤ y → y < nm → Below w0.heap.size w0 w → F.holds w → Calls Try.prog 102 [.agg #[pv x, .int .i64 (cnt x)], .agg #[pv y, .int .i64 (cnt y)]].toArray w fun e w' => ∃ v, e = .returned v ∧ ∃ c : Int, v = .int .i64 c ∧ (c < 0 ↔ lt x y) ∧ Sat w w' []) (hd : ∀ k, 0 ≤ k → k < n → 0 ≤ s k ∧ s k < nm) (a0 : 0 ≤ a) (am : a < m) (mb : m < b) (bn : b ≤ n) (h1 : Srt (Tie lt) a m s) (h2 : Srt (Tie lt) m b s) (hp : Parted a m b s) (hN : (b - a).toNat < N),
    Calls Try.prog 126 [vd, .int .i64 a, .int .i64 m, .int .i64 b, .func (.func 102) #[] #[]].toArray w fun e w => ∃ v, e = .returned v ∧ v = .tuple #[] ∧ ∃ t : Int → Int, PermOn a b s t ∧ Srt (Tie lt) a b t ∧ Sat w0 w [.own vd 2 50 n (ucells (fun z9 => pv (t z9)) (fun z9 => cnt (t z9))), .sem F] := by
  induction N with
  | zero => intros; omega
  | succ N ih =>
    intro s a m b w0 w hS hcmp hd a0 am mb bn h1 h2 hp hN
    refine zenF Try.func126 Try.ntmps126 ?_
    refine zsq <| zsr ?_
    refine zs2 ?_
    refine zlv (xsub (r := m - a)) ?_
    refine zlv xeql ?_
    refine zlt ?_
    refine zcif ?_ ?_ <;> intro hc
    ·
     refine zsr ?_
     refine zs2 ?_
     refine zlz ?_
     refine zs2 ?_
     refine zlt <| zsq <| zbk <| zlp (fun mm M w => ∃ (i : Int) (j : Int), mm = ((j - i).toNat) ∧ (m ≤ i) ∧ (i ≤ j) ∧ (j ≤ b) ∧ (i = a + 1 ∨ lt (s (i - 1)) (s a)) ∧ (j = b ∨ ¬ lt (s j) (s a)) ∧ M = [(0, vd), (1, .int .i64 a), (2, .int .i64 m), (3, .int .i64 b), (4, .func (.func 102) #[] #[]), (10, .int .i64 i), (11, .int .i64 j)] ∧ Sat w0 w [.own vd 2 50 n (ucells (fun z9 => pv (s z9)) (fun z9 => cnt (s z9))), .sem F]) ⟨m, b, rfl, (by omega), (by omega), (by omega), ?_, ?_, rfl, hS⟩ ?_
     ·
      exact .inl (by omega)
     ·
      exact .inl rfl
     clear hS w
     rintro mm M w ⟨i, j, rfl, i0, ij, j1, hi, hj, rfl, hS⟩
     refine zsq <| zsr ?_
     refine zs3 ?_
     refine zlt ?_
     refine zcif ?_ ?_ <;> intro hc
     ·
      refine zsk <| ztn <| zbk <| zsr ?_
      refine zs2 ?_
      refine zlv (xadd (r := i + j)) ?_
      refine zlv (xcv so_3 it_112) ?_
      refine zlv (xshr1 (r := ((i + j) / 2))) ?_
      refine zlv (xcv so_112 it_3) ?_
      refine zlv xas ?_
      refine zlt <| zsq ?_
      refine zdst [0, 1] [0, 1] 1000 mx_ hS ?_; clear hS; intro w hS
      refine zdv 0 (fun _ => xmv) ?_
      refine zdv 1 (fun _ => xmv) ?_
      refine zdv 2 (fun _ => xmv) ?_
      refine zdv 3 (fun _ => (xix (kk := 2 * ((i + j) / 2)) sl_42 hsl)) ?_
      refine zdla 4 (fun w hS => (xlw (cs := [(pv (s ((i + j) / 2))), .int .i64 (cnt (s ((i + j) / 2)))]) st_50 (hS.rowN 0 rfl) (ucells_at (k := 2 * ((i + j) / 2)) (i := ((i + j) / 2)) (fun z9 => pv (s z9)) (fun z9 => cnt (s z9)) (by omega)))) ?_
      refine zdv 5 (fun _ => xmv) ?_
      refine zdv 6 (fun _ => xmv) ?_
      refine zdv 7 (fun _ => (xix (kk := 2 * a) sl_42 hsl)) ?_
      refine zdla 8 (fun w hS => (xlw (cs := [(pv (s a)), .int .i64 (cnt (s a))]) st_50 (hS.rowN 0 rfl) (ucells_at (k := 2 * a) (i := a) (fun z9 => pv (s z9)) (fun z9 => cnt (s z9)) (by omega)))) ?_
      refine zdc 9 (xc0 cl_102) (hcmp w (s ((i + j) / 2)) (s a) (hd ((i + j) / 2) (by omega) (by omega)).1 (hd ((i + j) / 2) (by omega) (by omega)).2 (hd a (by omega) (by omega)).1 (hd a (by omega) (by omega)).2 hS.below (hS.holds _ (List.mem_of_getElem? (i := 1) rfl))) ?_; rintro _ w ⟨c1, rfl, hc1, hS'⟩
      replace hS := hS.cmp hS'; clear hS'
      refine ⟨⟨fun _ => hS, hS⟩, ?_⟩
      refine zdv 10 (fun _ => xlss) ?_
      refine zdd <| ztn ?_
      refine zcif ?_ ?_ <;> intro hc
      ·
       refine zrg ?_
       refine zlv xmv ?_
       refine zlv (xadd (r := ((i + j) / 2) + 1)) ?_
       refine zlv xas ?_
       refine zln <| zbn <| zlq ⟨((i + j) / 2) + 1, j, rfl, (by omega), (by omega), (by omega), ?_, ?_, rfl, hS⟩
       ·
        first | exact hi | (right; rw [show (i + j) / 2 + 1 - 1 = (i + j) / 2 by omega]; exact hc1.1 ‹c1 < 0›)
       ·
        first | exact hj | exact .inr fun h => absurd (hc1.2 h) ‹¬ c1 < 0›
      refine zrg ?_
      refine zs2 ?_
      refine zln <| zbn <| zlq ⟨i, ((i + j) / 2), rfl, (by omega), (by omega), (by omega), ?_, ?_, rfl, hS⟩
      ·
       first | exact hi | (right; rw [show (i + j) / 2 + 1 - 1 = (i + j) / 2 by omega]; exact hc1.1 ‹c1 < 0›)
      ·
       first | exact hj | exact .inr fun h => absurd (hc1.2 h) ‹¬ c1 < 0›
     refine zxt <| ztx <| ztx <| zbh <| ztn <| zsq <| zsr ?_
     refine zs2 ?_
     refine zlt <| zbk <| zlp (fun mm M w => ∃ (t : Int → Int) (k : Int), mm = ((i - 1 - k).toNat) ∧ (a ≤ k) ∧ (k ≤ i - 1) ∧ (t = rot s a (a + 1) (k + 1)) ∧ M = [(0, vd), (1, .int .i64 a), (2, .int .i64 m), (3, .int .i64 b), (4, .func (.func 102) #[] #[]), (10, .int .i64 i), (13, .int .i64 k)] ∧ Sat w0 w [.own vd 2 50 n (ucells (fun z9 => pv (t z9)) (fun z9 => cnt (t z9))), .sem F]) ⟨s, a, rfl, (by omega), (by omega), ?_, rfl, hS⟩ ?_
     ·
      exact (shl_zero s a).symm
     clear hS w
     rintro mm M w ⟨t, k, rfl, k0, k1, ht, rfl, hS⟩
     refine zsq <| zsr ?_
     refine zs2 ?_
     refine zlv (xsub (r := i - 1)) ?_
     refine zlv xlss ?_
     refine zlt ?_
     refine zcif ?_ ?_ <;> intro hc
     ·
      refine zsk <| ztn <| zsq <| zbk ?_
      refine zdst [0, 1] [1] 15 mx_ hS ?_; clear hS; intro w hS
      refine zdv 0 (fun _ => xmv) ?_
      refine zdv 1 (fun _ => xmv) ?_
      refine zdv 2 (fun _ => xmv) ?_
      refine zdv 3 (fun _ => xmv) ?_
      refine zdv 4 (fun _ => (xadd (r := k + 1))) ?_
      refine zdv 5 (fun _ => xmv) ?_
      refine zdv 6 (fun _ => xmv) ?_
      refine zdv 7 (fun _ => (xadd (r := k + 1))) ?_
      refine zdv 8 (fun _ => (xix (kk := 2 * k + 2) sl_42 hsl)) ?_
      refine zdl 9 (fun w hS => (xlw (cs := [(pv (t (k + 1))), .int .i64 (cnt (t (k + 1)))]) st_50 (hS.rowN 0 rfl) (ucells_at (k := 2 * k + 2) (i := k + 1) (fun z9 => pv (t z9)) (fun z9 => cnt (t z9)) (by omega)))) ?_
      refine zdv 10 (fun _ => xmv) ?_
      refine zdv 11 (fun _ => xmv) ?_
      refine zdv 12 (fun _ => (xix (kk := 2 * k) sl_42 hsl)) ?_
      refine zdl 13 (fun w hS => (xlw (cs := [(pv (t k)), .int .i64 (cnt (t k))]) st_50 (hS.rowN 0 rfl) (ucells_at (k := 2 * k) (i := k) (fun z9 => pv (t z9)) (fun z9 => cnt (t z9)) (by omega)))) ?_
      refine zdv 14 (fun _ => (xix (kk := 2 * k) sl_42 hsl)) ?_
      refine zde 15 (xso2 0 st_50 hS (upd_use (i := k) (k := 2 * k) _ _ _ _ (by omega)) (hv := hone _)) ?_; clear hS; rintro w hS
      replace hS := hS.n2
      refine ⟨⟨fun h => absurd h (by decide), hS.pk [1]⟩, ?_⟩
      refine zdv 16 (fun _ => (xix (kk := 2 * k + 2) sl_42 hsl)) ?_
      refine zde 17 (xso2 0 st_50 hS (Eq.trans (upd_use (i := k + 1) (k := 2 * k + 2) _ _ _ _ (by omega)) (ucells_swp pv cnt t k (k + 1))) (hv := hone _)) ?_; clear hS; rintro w hS
      replace hS := hS.n2
      refine ⟨⟨fun h => absurd h (by decide), hS.pk [1]⟩, ?_⟩
      refine zdd <| zbn <| ztn <| zrg ?_
      refine zlv xmv ?_
      refine zlv (xadd (r := k + 1)) ?_
      refine zlv xas ?_
      refine zln <| zlq ⟨swp t k (k + 1), k + 1, rfl, (by omega), (by omega), ?_, rfl, hS⟩
      ·
       rw [ht]; exact shl_next (by omega)
     refine zxt <| ztx <| ztx <| zbh <| ztn <| zrt <| ztr <| zf0 ⟨_, rfl, ?_⟩
     have hki : k + 1 = i := by omega
     rw [hki] at ht
     refine ⟨rfl, t, ?_, ?_, hS⟩
     · rw [ht]; exact (rot_perm (by omega) (by omega)).mono (by omega) (by omega)
     · rw [ht]; obtain rfl : m = a + 1 := by omega
       exact merge_one hw h2 (fun j j0 j1 => hp a j (by omega) (by omega) j0 j1) (by omega) (by omega) hi (by rw [show i = j by omega]; exact hj)
    refine zsk <| ztn <| zsq <| zsr ?_
    refine zs2 ?_
    refine zlv (xsub (r := b - m)) ?_
    refine zlv xeql ?_
    refine zlt ?_
    refine zcif ?_ ?_ <;> intro hc
    ·
     refine zsr ?_
     refine zs2 ?_
     refine zlz ?_
     refine zs2 ?_
     refine zlt <| zsq <| zbk <| zlp (fun mm M w => ∃ (i : Int) (j : Int), mm = ((j - i).toNat) ∧ (a ≤ i) ∧ (i ≤ j) ∧ (j ≤ m) ∧ (i = a ∨ ¬ lt (s m) (s (i - 1))) ∧ (j = m ∨ lt (s m) (s j)) ∧ M = [(0, vd), (1, .int .i64 a), (2, .int .i64 m), (3, .int .i64 b), (4, .func (.func 102) #[] #[]), (14, .int .i64 i), (15, .int .i64 j)] ∧ Sat w0 w [.own vd 2 50 n (ucells (fun z9 => pv (s z9)) (fun z9 => cnt (s z9))), .sem F]) ⟨a, m, rfl, (by omega), (by omega), (by omega), ?_, ?_, rfl, hS⟩ ?_
     ·
      exact .inl rfl
     ·
      exact .inl rfl
     clear hS w
     rintro mm M w ⟨i, j, rfl, i0, ij, j1, hi, hj, rfl, hS⟩
     refine zsq <| zsr ?_
     refine zs3 ?_
     refine zlt ?_
     refine zcif ?_ ?_ <;> intro hc
     ·
      refine zsk <| ztn <| zbk <| zsr ?_
      refine zs2 ?_
      refine zlv (xadd (r := i + j)) ?_
      refine zlv (xcv so_3 it_112) ?_
      refine zlv (xshr1 (r := ((i + j) / 2))) ?_
      refine zlv (xcv so_112 it_3) ?_
      refine zlv xas ?_
      refine zlt <| zsq ?_
      refine zdst [0, 1] [0, 1] 1000 mx_ hS ?_; clear hS; intro w hS
      refine zdv 0 (fun _ => xmv) ?_
      refine zdv 1 (fun _ => xmv) ?_
      refine zdv 2 (fun _ => xmv) ?_
      refine zdv 3 (fun _ => (xix (kk := 2 * m) sl_42 hsl)) ?_
      refine zdla 4 (fun w hS => (xlw (cs := [(pv (s m)), .int .i64 (cnt (s m))]) st_50 (hS.rowN 0 rfl) (ucells_at (k := 2 * m) (i := m) (fun z9 => pv (s z9)) (fun z9 => cnt (s z9)) (by omega)))) ?_
      refine zdv 5 (fun _ => xmv) ?_
      refine zdv 6 (fun _ => xmv) ?_
      refine zdv 7 (fun _ => (xix (kk := 2 * ((i + j) / 2)) sl_42 hsl)) ?_
      refine zdla 8 (fun w hS => (xlw (cs := [(pv (s ((i + j) / 2))), .int .i64 (cnt (s ((i + j) / 2)))]) st_50 (hS.rowN 0 rfl) (ucells_at (k := 2 * ((i + j) / 2)) (i := ((i + j) / 2)) (fun z9 => pv (s z9)) (fun z9 => cnt (s z9)) (by omega)))) ?_
      refine zdc 9 (xc0 cl_102) (hcmp w (s m) (s ((i + j) / 2)) (hd m (by omega) (by omega)).1 (hd m (by omega) (by omega)).2 (hd ((i + j) / 2) (by omega) (by omega)).1 (hd ((i + j) / 2) (by omega) (by omega)).2 hS.below (hS.holds _ (List.mem_of_getElem? (i := 1) rfl))) ?_; rintro _ w ⟨c1, rfl, hc1, hS'⟩
      replace hS := hS.cmp hS'; clear hS'
      refine ⟨⟨fun _ => hS, hS⟩, ?_⟩
      refine zdv 10 (fun _ => xlss) ?_
      refine zdv 11 (fun _ => xnot) ?_
      refine zdd <| ztn ?_
      refine zcif ?_ ?_ <;> intro hc
      ·
       refine zrg ?_
       refine zlv xmv ?_
       refine zlv (xadd (r := ((i + j) / 2) + 1)) ?_
       refine zlv xas ?_
       refine zln <| zbn <| zlq ⟨((i + j) / 2) + 1, j, rfl, (by omega), (by omega), (by omega), ?_, ?_, rfl, hS⟩
       ·
        first | exact hi | (right; rw [show (i + j) / 2 + 1 - 1 = (i + j) / 2 by omega]; exact fun h => absurd (hc1.2 h) ‹¬ c1 < 0›)
       ·
        first | exact hj | exact .inr (hc1.1 (Classical.not_not.1 ‹_›))
      refine zrg ?_
      refine zs2 ?_
      refine zln <| zbn <| zlq ⟨i, ((i + j) / 2), rfl, (by omega), (by omega), (by omega), ?_, ?_, rfl, hS⟩
      ·
       first | exact hi | (right; rw [show (i + j) / 2 + 1 - 1 = (i + j) / 2 by omega]; exact fun h => absurd (hc1.2 h) ‹¬ c1 < 0›)
      ·
       first | exact hj | exact .inr (hc1.1 (Classical.not_not.1 ‹_›))
     refine zxt <| ztx <| ztx <| zbh <| ztn <| zsq <| zsr ?_
     refine zs2 ?_
     refine zlt <| zbk <| zlp (fun mm M w => ∃ (t : Int → Int) (k : Int), mm = ((k - i).toNat) ∧ (i ≤ k) ∧ (k ≤ m) ∧ (t = rot s k m (m + 1)) ∧ M = [(0, vd), (1, .int .i64 a), (2, .int .i64 m), (3, .int .i64 b), (4, .func (.func 102) #[] #[]), (14, .int .i64 i), (17, .int .i64 k)] ∧ Sat w0 w [.own vd 2 50 n (ucells (fun z9 => pv (t z9)) (fun z9 => cnt (t z9))), .sem F]) ⟨s, m, rfl, (by omega), (by omega), ?_, rfl, hS⟩ ?_
     ·
      exact (shr_zero s m).symm
     clear hS w
     rintro mm M w ⟨t, k, rfl, k0, k1, ht, rfl, hS⟩
     refine zsq <| zsr ?_
     refine zs3 ?_
     refine zlt ?_
     refine zcif ?_ ?_ <;> intro hc
     ·
      refine zsk <| ztn <| zsq <| zbk ?_
      refine zdst [0, 1] [1] 15 mx_ hS ?_; clear hS; intro w hS
      refine zdv 0 (fun _ => xmv) ?_
      refine zdv 1 (fun _ => xmv) ?_
      refine zdv 2 (fun _ => xmv) ?_
      refine zdv 3 (fun _ => xmv) ?_
      refine zdv 4 (fun _ => (xsub (r := k - 1))) ?_
      refine zdv 5 (fun _ => xmv) ?_
      refine zdv 6 (fun _ => xmv) ?_
      refine zdv 7 (fun _ => (xsub (r := k - 1))) ?_
      refine zdv 8 (fun _ => (xix (kk := 2 * k - 2) sl_42 hsl)) ?_
      refine zdl 9 (fun w hS => (xlw (cs := [(pv (t (k - 1))), .int .i64 (cnt (t (k - 1)))]) st_50 (hS.rowN 0 rfl) (ucells_at (k := 2 * k - 2) (i := k - 1) (fun z9 => pv (t z9)) (fun z9 => cnt (t z9)) (by omega)))) ?_
      refine zdv 10 (fun _ => xmv) ?_
      refine zdv 11 (fun _ => xmv) ?_
      refine zdv 12 (fun _ => (xix (kk := 2 * k) sl_42 hsl)) ?_
      refine zdl 13 (fun w hS => (xlw (cs := [(pv (t k)), .int .i64 (cnt (t k))]) st_50 (hS.rowN 0 rfl) (ucells_at (k := 2 * k) (i := k) (fun z9 => pv (t z9)) (fun z9 => cnt (t z9)) (by omega)))) ?_
      refine zdv 14 (fun _ => (xix (kk := 2 * k) sl_42 hsl)) ?_
      refine zde 15 (xso2 0 st_50 hS (upd_use (i := k) (k := 2 * k) _ _ _ _ (by omega)) (hv := hone _)) ?_; clear hS; rintro w hS
      replace hS := hS.n2
      refine ⟨⟨fun h => absurd h (by decide), hS.pk [1]⟩, ?_⟩
      refine zdv 16 (fun _ => (xix (kk := 2 * k - 2) sl_42 hsl)) ?_
      refine zde 17 (xso2 0 st_50 hS (Eq.trans (upd_use (i := k - 1) (k := 2 * k - 2) _ _ _ _ (by omega)) (ucells_swp pv cnt t k (k - 1))) (hv := hone _)) ?_; clear hS; rintro w hS
      replace hS := hS.n2
      refine ⟨⟨fun h => absurd h (by decide), hS.pk [1]⟩, ?_⟩
      refine zdd <| zbn <| ztn <| zrg ?_
      refine zlv xmv ?_
      refine zlv (xsub (r := k - 1)) ?_
      refine zlv xas ?_
      refine zln <| zlq ⟨swp t k (k - 1), k - 1, rfl, (by omega), (by omega), ?_, rfl, hS⟩
      ·
       rw [ht]; exact shr_next (by omega)
     refine zxt <| ztx <| ztx <| zbh <| ztn <| zrt <| ztr <| zf0 ⟨_, rfl, ?_⟩
     have hki : k = i := by omega
     rw [hki] at ht
     refine ⟨rfl, t, ?_, ?_, hS⟩
     · rw [ht]; exact (rot_perm (by omega) (by omega)).mono (by omega) (by omega)
     · rw [ht]; obtain rfl : b = m + 1 := by omega
       exact merge_last hw h1 (fun i i0 i1 => hp i m i0 i1 (by omega) (by omega)) (by omega) (by omega) hi (by rw [show i = j by omega]; exact hj)
    refine zsk <| ztn <| zsr ?_
    refine zs2 ?_
    refine zlv (xadd (r := a + b)) ?_
    refine zlv (xcv so_3 it_112) ?_
    refine zlv (xshr1 (r := ((a + b) / 2))) ?_
    refine zlv (xcv so_112 it_3) ?_
    refine zlv xas ?_
    refine zlz ?_
    refine zs2 ?_
    refine zlv (xadd (r := ((a + b) / 2) + m)) ?_
    refine zlv xas ?_
    refine zlz ?_
    refine zs2 ?_
    refine zlt <| zsq <| ?_
    refine zgcut (fun M w => ∃ (mid : Int) (s0 : Int) (r0 : Int), (mid = ((a + b) / 2)) ∧ ((mid < m ∧ s0 = mid + m - b ∧ r0 = mid) ∨ (m ≤ mid ∧ s0 = a ∧ r0 = m)) ∧ M = [(0, vd), (1, .int .i64 a), (2, .int .i64 m), (3, .int .i64 b), (4, .func (.func 102) #[] #[]), (25, .int .i64 m), (26, .int .i64 a), (27, .int .i64 (m - a)), (28, B (m - a = 1)), (77, .int .i64 b), (78, .int .i64 m), (79, .int .i64 (b - m)), (80, B (b - m = 1)), (129, .int .i64 a), (130, .int .i64 b), (131, .int .i64 (a + b)), (132, .int .u64 (a + b)), (133, .int .u64 ((a + b) / 2)), (134, .int .i64 ((a + b) / 2)), (18, .int .i64 mid), (135, .int .i64 ((a + b) / 2)), (136, .int .i64 m), (137, .int .i64 (((a + b) / 2) + m)), (19, .int .i64 (mid + m)), (20, .int .i64 s0), (21, .int .i64 r0)] ∧ Sat w0 w [.own vd 2 50 n (ucells (fun z9 => pv (s z9)) (fun z9 => cnt (s z9))), .sem F]) ?_ ?_
    ·
     refine zsr ?_
     refine zs3 ?_
     refine zlt ?_
     refine zcif ?_ ?_ <;> intro hc
     ·
      refine zsr ?_
      refine zs2 ?_
      refine zlv (xsub (r := ((a + b) / 2) + m - b)) ?_
      refine zlv xas ?_
      refine zlt <| zrg ?_
      refine zs2 ?_
      refine zln <| zgj ⟨((a + b) / 2), (((a + b) / 2) + m - b), ((a + b) / 2), rfl, (by omega), rfl, hS⟩
     refine zsr ?_
     refine zs2 ?_
     refine zlt <| zrg ?_
     refine zs2 ?_
     refine zln <| zgj ⟨((a + b) / 2), a, m, rfl, (by omega), rfl, hS⟩
    clear hS w; rintro M w ⟨mid, s0, r0, hmid, hq, rfl, hS⟩
    refine ztn <| zsr ?_
    refine zlv xmv ?_
    refine zlv (xsub (r := mid + m - 1)) ?_
    refine zlv xas ?_
    refine zlt <| zsq <| zbk <| zlp (fun mm M w => ∃ (x : Int) (y : Int), mm = ((y - x).toNat) ∧ (s0 ≤ x) ∧ (x ≤ y) ∧ (y ≤ r0) ∧ (x = s0 ∨ ¬ lt (s (mid + m - x)) (s (x - 1))) ∧ (y = r0 ∨ lt (s (mid + m - y - 1)) (s y)) ∧ M = [(0, vd), (1, .int .i64 a), (2, .int .i64 m), (3, .int .i64 b), (4, .func (.func 102) #[] #[]), (18, .int .i64 mid), (19, .int .i64 (mid + m)), (20, .int .i64 x), (21, .int .i64 y), (22, .int .i64 (mid + m - 1))] ∧ Sat w0 w [.own vd 2 50 n (ucells (fun z9 => pv (s z9)) (fun z9 => cnt (s z9))), .sem F]) ⟨s0, r0, rfl, (by omega), (by omega), (by omega), ?_, ?_, rfl, hS⟩ ?_
    ·
     exact .inl rfl
    ·
     exact .inl rfl
    clear hS w
    rintro mm M w ⟨x, y, rfl, x0, xy, y1, hx, hy, rfl, hS⟩
    refine zsq <| zsr ?_
    refine zs3 ?_
    refine zlt ?_
    refine zcif ?_ ?_ <;> intro hc
    ·
     refine zsk <| ztn <| zbk <| zsr ?_
     refine zs2 ?_
     refine zlv (xadd (r := x + y)) ?_
     refine zlv (xcv so_3 it_112) ?_
     refine zlv (xshr1 (r := ((x + y) / 2))) ?_
     refine zlv (xcv so_112 it_3) ?_
     refine zlv xas ?_
     refine zlt <| zsq ?_
     refine zdst [0, 1] [0, 1] 1000 mx_ hS ?_; clear hS; intro w hS
     refine zdv 0 (fun _ => xmv) ?_
     refine zdv 1 (fun _ => xmv) ?_
     refine zdv 2 (fun _ => xmv) ?_
     refine zdv 3 (fun _ => xmv) ?_
     refine zdv 4 (fun _ => (xsub (r := mid + m - ((x + y) / 2) - 1))) ?_
     refine zdv 5 (fun _ => (xix (kk := 2 * mid + 2 * m - 2 * ((x + y) / 2) - 2) sl_42 hsl)) ?_
     refine zdla 6 (fun w hS => (xlw (cs := [(pv (s (mid + m - ((x + y) / 2) - 1))), .int .i64 (cnt (s (mid + m - ((x + y) / 2) - 1)))]) st_50 (hS.rowN 0 rfl) (ucells_at (k := 2 * mid + 2 * m - 2 * ((x + y) / 2) - 2) (i := mid + m - ((x + y) / 2) - 1) (fun z9 => pv (s z9)) (fun z9 => cnt (s z9)) (by omega)))) ?_
     refine zdv 7 (fun _ => xmv) ?_
     refine zdv 8 (fun _ => xmv) ?_
     refine zdv 9 (fun _ => (xix (kk := 2 * ((x + y) / 2)) sl_42 hsl)) ?_
     refine zdla 10 (fun w hS => (xlw (cs := [(pv (s ((x + y) / 2))), .int .i64 (cnt (s ((x + y) / 2)))]) st_50 (hS.rowN 0 rfl) (ucells_at (k := 2 * ((x + y) / 2)) (i := ((x + y) / 2)) (fun z9 => pv (s z9)) (fun z9 => cnt (s z9)) (by omega)))) ?_
     refine zdc 11 (xc0 cl_102) (hcmp w (s (mid + m - ((x + y) / 2) - 1)) (s ((x + y) / 2)) (hd (mid + m - ((x + y) / 2) - 1) (by omega) (by omega)).1 (hd (mid + m - ((x + y) / 2) - 1) (by omega) (by omega)).2 (hd ((x + y) / 2) (by omega) (by omega)).1 (hd ((x + y) / 2) (by omega) (by omega)).2 hS.below (hS.holds _ (List.mem_of_getElem? (i := 1) rfl))) ?_; rintro _ w ⟨c1, rfl, hc1, hS'⟩
     replace hS := hS.cmp hS'; clear hS'
     refine ⟨⟨fun _ => hS, hS⟩, ?_⟩
     refine zdv 12 (fun _ => xlss) ?_
     refine zdv 13 (fun _ => xnot) ?_
     refine zdd <| ztn ?_
     refine zcif ?_ ?_ <;> intro hc
     ·
      refine zrg ?_
      refine zlv xmv ?_
      refine zlv (xadd (r := ((x + y) / 2) + 1)) ?_
      refine zlv xas ?_
      refine zln <| zbn <| zlq ⟨((x + y) / 2) + 1, y, rfl, (by omega), (by omega), (by omega), ?_, ?_, rfl, hS⟩
      ·
       first | exact hx | (right; rw [show mid + m - ((x + y) / 2 + 1) = mid + m - (x + y) / 2 - 1 by omega, show (x + y) / 2 + 1 - 1 = (x + y) / 2 by omega]; exact fun h => absurd (hc1.2 h) ‹¬ c1 < 0›)
      ·
       first | exact hy | exact .inr (hc1.1 (Classical.not_not.1 ‹_›))
     refine zrg ?_
     refine zs2 ?_
     refine zln <| zbn <| zlq ⟨x, ((x + y) / 2), rfl, (by omega), (by omega), (by omega), ?_, ?_, rfl, hS⟩
     ·
      first | exact hx | (right; rw [show mid + m - ((x + y) / 2 + 1) = mid + m - (x + y) / 2 - 1 by omega, show (x + y) / 2 + 1 - 1 = (x + y) / 2 by omega]; exact fun h => absurd (hc1.2 h) ‹¬ c1 < 0›)
     ·
      first | exact hy | exact .inr (hc1.1 (Classical.not_not.1 ‹_›))
    refine zxt <| ztx <| ztx <| zbh <| ztn <| zsr ?_
    refine zs2 ?_
    refine zlv (xsub (r := mid + m - x)) ?_
    refine zlv xas ?_
    refine zlt <| zsq <| ?_
    refine zgcut (fun M w => ∃ (t : Int → Int), (t = rot s x m (mid + m - x)) ∧ M = [(0, vd), (1, .int .i64 a), (2, .int .i64 m), (3, .int .i64 b), (4, .func (.func 102) #[] #[]), (18, .int .i64 mid), (19, .int .i64 (mid + m)), (20, .int .i64 x), (21, .int .i64 y), (22, .int .i64 (mid + m - 1)), (149, .int .i64 x), (150, .int .i64 y), (151, B (x < y)), (175, .int .i64 (mid + m)), (176, .int .i64 x), (177, .int .i64 (mid + m - x)), (24, .int .i64 (mid + m - x))] ∧ Sat w0 w [.own vd 2 50 n (ucells (fun z9 => pv (t z9)) (fun z9 => cnt (t z9))), .sem F]) ?_ ?_
    ·
     refine zsr ?_
     refine zs4 ?_
     refine zlb 181 ?_ ?_ <;> intro hc
     ·
      refine zs4 ?_
      refine zlt ?_
      refine zcif ?_ ?_ <;> intro hc
      ·
       refine zrg ?_
       refine zs5 ?_
       refine zlc (xc0 cl_133) (c_rotU (s := s) (a := x) (m := m) (b := mid + m - x) w0 w hS hsl hn8 hone (by omega) (by omega) (by omega) (by omega)) ?_; rintro _ w ⟨rfl, hS⟩
       replace hS := hS.n2
       refine zln <| zgj ⟨(rot s x m (mid + m - x)), rfl, rfl, hS⟩
      refine zsk <| zgj ⟨s, (rot_triv (by omega) (by omega) (by omega)).symm, rfl, hS⟩
     iterate 3 refine zlo ?_
     refine zlv xpf ?_
     refine zlt <| zcf <| zsk <| zgj ⟨s, (rot_triv (by omega) (by omega) (by omega)).symm, rfl, hS⟩
    clear hS w; rintro M w ⟨t, ht, rfl, hS⟩
    have hdt := (rot_perm (a := s) (lo := x) (c := m) (hi := mid + m - x) (by omega) (by omega)).dom (n := n) (N := nm) (by omega) (.inl (by omega)) hd
    rw [← ht] at hdt
    have hH := merge_halves hw h1 h2 hp (s := x) (mid := mid) (e := mid + m - x) (by omega) (by omega) (by omega) (by omega) (by omega) (by rcases hq with hq | hq <;> rcases hx with hx | hx <;> first | exact .inl (by omega) | exact .inr (.inl (by omega)) | exact .inr (.inr hx)) (by rcases hq with hq | hq <;> rcases hy with hy | hy <;> first | exact .inl (by omega) | exact .inr (.inl (by omega)) | (refine .inr (.inr ?_); rw [show x = y by omega]; exact hy))
    rw [← ht] at hH
    refine ztn <| zsq <| ?_
    refine zgcut (fun M w => ∃ (t1 : Int → Int), (PermOn a mid t t1) ∧ (Srt (Tie lt) a mid t1) ∧ (∀ k, 0 ≤ k → k < n → 0 ≤ t1 k ∧ t1 k < nm) ∧ M = [(0, vd), (1, .int .i64 a), (2, .int .i64 m), (3, .int .i64 b), (4, .func (.func 102) #[] #[]), (18, .int .i64 mid), (19, .int .i64 (mid + m)), (20, .int .i64 x), (21, .int .i64 y), (22, .int .i64 (mid + m - 1)), (149, .int .i64 x), (150, .int .i64 y), (151, B (x < y)), (175, .int .i64 (mid + m)), (176, .int .i64 x), (177, .int .i64 (mid + m - x)), (24, .int .i64 (mid + m - x))] ∧ Sat w0 w [.own vd 2 50 n (ucells (fun z9 => pv (t1 z9)) (fun z9 => cnt (t1 z9))), .sem F]) ?_ ?_
    ·
     refine zsr ?_
     refine zs4 ?_
     refine zlb 195 ?_ ?_ <;> intro hc
     ·
      refine zs4 ?_
      refine zlt ?_
      refine zcif ?_ ?_ <;> intro hc
      ·
       refine zrg ?_
       refine zs5 ?_
       refine zlc (xc0 cl_126) (ih (s := t) (a := a) (m := x) (b := mid) w0 w hS hcmp hdt (by omega) (by omega) (by omega) (by omega) (hH.l1) (hH.l2) (hH.pl) (by omega)) ?_; rintro _ w ⟨rfl, u1, hpu1, hsu1, hS⟩
       have hdu1 := hpu1.dom (by omega) (.inl (by omega)) hdt
       replace hS := hS.n2
       refine zln <| zgj ⟨u1, hpu1, hsu1, hdu1, rfl, hS⟩
      refine zsk <| zgj ⟨t, (.refl _ _ _), (hH.left (by first | omega | (rintro ⟨h3, h4⟩; omega)) (by omega) (by omega)), hdt, rfl, hS⟩
     iterate 3 refine zlo ?_
     refine zlv xpf ?_
     refine zlt <| zcf <| zsk <| zgj ⟨t, (.refl _ _ _), (hH.left (by first | omega | (rintro ⟨h3, h4⟩; omega)) (by omega) (by omega)), hdt, rfl, hS⟩
    clear hS w; rintro M w ⟨t1, hq1, hq2, hdt1, rfl, hS⟩
    have hH2 : Halves lt a a mid (mid + m - x) b t1 := Halves.after hH hq1 hq2 (by omega) (by omega)
    refine ztn <| zsr ?_
    refine zs4 ?_
    refine zlb 209 ?_ ?_ <;> intro hc
    ·
     refine zs4 ?_
     refine zlt ?_
     refine zcif ?_ ?_ <;> intro hc
     ·
      refine zrg ?_
      refine zs5 ?_
      refine zlc (xc0 cl_126) (ih (s := t1) (a := mid) (m := mid + m - x) (b := b) w0 w hS hcmp hdt1 (by omega) (by omega) (by omega) (by omega) (hH2.r1) (hH2.r2) (hH2.pr) (by omega)) ?_; rintro _ w ⟨rfl, u1, hpu1, hsu1, hS⟩
      have hdu1 := hpu1.dom (by omega) (.inl (by omega)) hdt1
      replace hS := hS.n2
      refine zln <| zfn0 ⟨_, rfl, ?_⟩
      refine ⟨rfl, u1, ((((rot_perm (a := s) (lo := x) (c := m) (hi := mid + m - x) (by omega) (by omega)).mono (by omega) (by omega) : PermOn a b s _)).trans (ht ▸ hq1.mono (by omega) (by omega))).trans (hpu1.mono (by omega) (by omega)), ?_, hS⟩
      exact hH.join hw (by omega) (by omega) hq1 hq2 hpu1 hsu1
     refine zsk <| zfn0 ⟨_, rfl, ?_⟩
     refine ⟨rfl, t1, (((rot_perm (a := s) (lo := x) (c := m) (hi := mid + m - x) (by omega) (by omega)).mono (by omega) (by omega) : PermOn a b s _)).trans (ht ▸ hq1.mono (by omega) (by omega)), ?_, hS⟩
     exact hH.join hw (by omega) (by omega) hq1 hq2 (.refl _ _ _) (hH2.right (by first | omega | (rintro ⟨h3, h4⟩; omega)) (by omega) (by omega))
    iterate 3 refine zlo ?_
    refine zlv xpf ?_
    refine zlt <| zcf <| zsk <| zfn0 ⟨_, rfl, ?_⟩
    refine ⟨rfl, t1, (((rot_perm (a := s) (lo := x) (c := m) (hi := mid + m - x) (by omega) (by omega)).mono (by omega) (by omega) : PermOn a b s _)).trans (ht ▸ hq1.mono (by omega) (by omega)), ?_, hS⟩
    exact hH.join hw (by omega) (by omega) hq1 hq2 (.refl _ _ _) (hH2.right (by first | omega | (rintro ⟨h3, h4⟩; omega)) (by omega) (by omega))
set_option maxHeartbeats 4000000 in
set_option maxRecDepth 20000 in
theorem c_stableU {vd : Value} {n nm : Int} {s : Int → Int} {pv : Int → Value} {cnt : Int → Int} {lt : Int → Int → Prop} {F : Go.Proofs.Gw.Frame} (w0 w : World) (hS : Sat w0 w [.own vd 2 50 n (ucells (fun z9 => pv (s z9)) (fun z9 => cnt (s z9))), .sem F]) (hsl : Slh vd n) (hn8 : n ≤ 100000000) (hone : ∀ x, (pv x).oneCell' = true) (hcmp : ∀ (w : World) (x y : Int), 0 ≤ x → x < nm → 0 ≤ y → y < nm → Below w0.heap.size w0 w → F.holds w → Calls Try.prog 102 [.agg #[pv x, .int .i64 (cnt x)], .agg #[pv y, .int .i64 (cnt y)]].toArray w fun e w' => ∃ v, e = .returned v ∧ ∃ c : Int, v = .int .i64 c ∧ (c < 0 ↔ lt x y) ∧ Sat w w' []) (hd : ∀ k, 0 ≤ k → k < n → 0 ≤ s k ∧ s k < nm) (hw : Swo lt) (hinc : Incr 0 n s) :
    Calls Try.prog 116 [vd, .int .i64 n, .func (.func 102) #[] #[]].toArray w fun e w => ∃ v, e = .returned v ∧ v = .tuple #[] ∧ ∃ t : Int → Int, PermOn 0 n s t ∧ Srt (Tie lt) 0 n t ∧ Sat w0 w [.own vd 2 50 n (ucells (fun z9 => pv (t z9)) (fun z9 => cnt (t z9))), .sem F] := by
  have hn0 := hsl.n0
  refine zenF Try.func116 Try.ntmps116 ?_
  refine zsr ?_
  refine zlv xas ?_
  refine zlz ?_
  refine zs3 ?_
  refine zlt <| zsq <| zbk <| zlp (fun mm M w => ∃ (t : Int → Int) (a : Int) (b : Int), mm = ((n - a).toNat) ∧ (0 ≤ a) ∧ (a ≤ n) ∧ (b = a + 20) ∧ ((20 : Int) ∣ a) ∧ (PermOn 0 a s t) ∧ (Runs_ lt 20 n 0 a t) ∧ (∀ k, 0 ≤ k → k < n → 0 ≤ t k ∧ t k < nm) ∧ M = [(0, vd), (1, .int .i64 n), (2, .func (.func 102) #[] #[]), (6, .int .i64 20), (7, .int .i64 a), (8, .int .i64 b)] ∧ Sat w0 w [.own vd 2 50 n (ucells (fun z9 => pv (t z9)) (fun z9 => cnt (t z9))), .sem F]) ⟨s, 0, 20, rfl, (by omega), (by omega), (by omega), ?_, ?_, ?_, ?_, rfl, hS⟩ ?_
  ·
   exact Int.dvd_zero 20
  ·
   exact .refl _ _ _
  ·
   intro c c0 c1; omega
  ·
   exact hd
  clear hS w
  rintro mm M w ⟨t, a, b, rfl, a0, a1, hb, hda, hp, hr, hd1, rfl, hS⟩
  refine zsq <| zsr ?_
  refine zs3 ?_
  refine zlt ?_
  refine zcif ?_ ?_ <;> intro hc
  ·
   refine zsk <| ztn <| zbk <| zsr ?_
   refine zs4 ?_
   refine zlc (xc0 cl_125) (c_insU (s := t) (a := a) (b := b) w0 w hS hsl hn8 hone hcmp hd1 hw (by omega) (by omega) (by omega) (incr_keep hp hinc (by omega) (by omega) (by omega))) ?_; rintro _ w ⟨rfl, u1, hpu1, hsu1, hS⟩
   have hdu1 := hpu1.dom (by omega) (.inl (by omega)) hd1
   replace hS := hS.n2
   refine zlz ?_
   refine zs2 ?_
   refine zlt <| zrg ?_
   refine zs2 ?_
   refine zlv (xadd (r := b + 20)) ?_
   refine zlv xas ?_
   refine zln <| zbn <| zlq ⟨u1, b, b + 20, rfl, (by omega), (by omega), (by omega), ?_, ?_, ?_, ?_, rfl, hS⟩
   ·
    rw [hb]; exact Int.dvd_add hda (Int.dvd_refl 20)
   ·
    exact (hp.mono (by omega) (by omega)).trans (hpu1.mono (by omega) (by omega))
   ·
    exact runs_first (by omega) hinc hr a0 hda hp hpu1 hsu1 (.inl ⟨hb, by omega⟩) (by omega)
   ·
    exact hdu1
  refine zxt <| ztx <| ztx <| zbh <| ztn <| zsr ?_
  refine zs4 ?_
  refine zlc (xc0 cl_125) (c_insU (s := t) (a := a) (b := n) w0 w hS hsl hn8 hone hcmp hd1 hw (by omega) (by omega) (by omega) (incr_keep hp hinc (by omega) (by omega) (by omega))) ?_; rintro _ w ⟨rfl, u1, hpu1, hsu1, hS⟩
  have hdu1 := hpu1.dom (by omega) (.inl (by omega)) hd1
  replace hS := hS.n2
  refine zlt <| zbk <| zlp (fun mm M w => ∃ (t2 : Int → Int) (z : Int), mm = ((n - z).toNat) ∧ (20 ≤ z) ∧ (z ≤ 2 * n + 20) ∧ (PermOn 0 n s t2) ∧ (Runs_ lt z n 0 n t2) ∧ (∀ k, 0 ≤ k → k < n → 0 ≤ t2 k ∧ t2 k < nm) ∧ M = [(0, vd), (1, .int .i64 n), (2, .func (.func 102) #[] #[]), (6, .int .i64 z)] ∧ Sat w0 w [.own vd 2 50 n (ucells (fun z9 => pv (t2 z9)) (fun z9 => cnt (t2 z9))), .sem F]) ⟨u1, 20, rfl, (by omega), (by omega), ?_, ?_, ?_, rfl, hS⟩ ?_
  ·
   exact (hp.mono (by omega) (by omega)).trans (hpu1.mono (by omega) (by omega))
  ·
   exact runs_first (by omega) hinc hr a0 hda hp hpu1 hsu1 (.inr ⟨rfl, by omega⟩) (by omega)
  ·
   exact hdu1
  clear hS w
  rintro mm M w ⟨t2, z, rfl, z0, z1, hp2, hr2, hd2, rfl, hS⟩
  refine zsq <| zsr ?_
  refine zs3 ?_
  refine zlt ?_
  refine zcif ?_ ?_ <;> intro hc
  ·
   refine zsk <| ztn <| zbk <| zsr ?_
   refine zlv xmv ?_
   refine zlv (xmul (r := 2 * z)) ?_
   refine zs2 ?_
   refine zlt <| zsq <| zbk <| zlp (fun mm M w => ∃ (t3 : Int → Int) (a3 : Int) (b3 : Int), mm = ((n - a3).toNat) ∧ (0 ≤ a3) ∧ (a3 ≤ n) ∧ (b3 = a3 + 2 * z) ∧ (2 * z ∣ a3) ∧ (PermOn 0 n s t3) ∧ (Runs_ lt (2 * z) n 0 a3 t3) ∧ (Runs_ lt z n a3 n t3) ∧ (∀ k, 0 ≤ k → k < n → 0 ≤ t3 k ∧ t3 k < nm) ∧ M = [(0, vd), (1, .int .i64 n), (2, .func (.func 102) #[] #[]), (6, .int .i64 z), (7, .int .i64 a3), (8, .int .i64 b3)] ∧ Sat w0 w [.own vd 2 50 n (ucells (fun z9 => pv (t3 z9)) (fun z9 => cnt (t3 z9))), .sem F]) ⟨t2, 0, 2 * z, rfl, (by omega), (by omega), (by omega), ?_, ?_, ?_, ?_, ?_, rfl, hS⟩ ?_
   ·
    exact Int.dvd_zero _
   ·
    exact hp2
   ·
    intro c c0 c1; omega
   ·
    exact hr2
   ·
    exact hd2
   clear hS w
   rintro mm M w ⟨t3, a3, b3, rfl, a30, a31, hb3, hda3, hp3, hA, hB, hd3, rfl, hS⟩
   refine zsq <| zsr ?_
   refine zs3 ?_
   refine zlt ?_
   refine zcif ?_ ?_ <;> intro hc
   ·
    refine zsk <| ztn <| zbk <| zsr ?_
    refine zs4 ?_
    refine zlv (xadd (r := a3 + z)) ?_
    refine zs2 ?_
    have hk := runs_pre (lt := lt) (z := z) (n := n) (a := a3) (b := b3) (t := t3) (by omega) a30 (Int.dvd_trans (Int.dvd_mul_left 2 z) hda3) hB (by omega) (by omega) (by omega)
    refine zlc (xc0 cl_126) (c_symU (nm := nm) (lt := lt) hsl hn8 hone hw _ (s := t3) (a := a3) (m := a3 + z) (b := b3) w0 w hS hcmp hd3 (by omega) (by omega) (by omega) (by omega) hk.1 hk.2.1 hk.2.2 (Nat.lt_succ_self _)) ?_; rintro _ w ⟨rfl, u2, hpu2, hsu2, hS⟩
    have hdu2 := hpu2.dom (by omega) (.inl (by omega)) hd3
    replace hS := hS.n2
    refine zlz ?_
    refine zs2 ?_
    refine zlt <| zrg ?_
    refine zs2 ?_
    refine zlv (xmul (r := 2 * z)) ?_
    refine zlv (xadd (r := b3 + 2 * z)) ?_
    refine zlv xas ?_
    refine zln <| zbn <| zlq ⟨u2, b3, b3 + 2 * z, rfl, (by omega), (by omega), (by omega), ?_, ?_, ?_, ?_, ?_, rfl, hS⟩
    ·
     rw [hb3]; exact Int.dvd_add hda3 (Int.dvd_refl _)
    ·
     exact hp3.trans (hpu2.mono (by omega) (by omega))
    ·
     exact (runs_merge (by omega) a30 hda3 hA hB hpu2 hsu2 (.inl ⟨hb3, by omega⟩) (by omega)).1
    ·
     exact (runs_merge (by omega) a30 hda3 hA hB hpu2 hsu2 (.inl ⟨hb3, by omega⟩) (by omega)).2
    ·
     exact hdu2
   refine zxt <| ztx <| ztx <| zbh <| ztn <| zsq <| zsr ?_
   refine zs2 ?_
   refine zlv (xadd (r := a3 + z)) ?_
   refine zlv xas ?_
   refine zlz ?_
   refine zs3 ?_
   refine zlt ?_
   refine zcif ?_ ?_ <;> intro hc
   ·
    refine zrg ?_
    refine zs5 ?_
    have hk := runs_pre (lt := lt) (z := z) (n := n) (a := a3) (b := n) (t := t3) (by omega) a30 (Int.dvd_trans (Int.dvd_mul_left 2 z) hda3) hB (by omega) (by omega) (by omega)
    refine zlc (xc0 cl_126) (c_symU (nm := nm) (lt := lt) hsl hn8 hone hw _ (s := t3) (a := a3) (m := a3 + z) (b := n) w0 w hS hcmp hd3 (by omega) (by omega) (by omega) (by omega) hk.1 hk.2.1 hk.2.2 (Nat.lt_succ_self _)) ?_; rintro _ w ⟨rfl, u2, hpu2, hsu2, hS⟩
    have hdu2 := hpu2.dom (by omega) (.inl (by omega)) hd3
    replace hS := hS.n2
    refine zlt <| zrg ?_
    refine zlv xmv ?_
    refine zlv (xmul (r := 2 * z)) ?_
    refine zlv xas ?_
    refine zln <| zbn <| zlq ⟨u2, 2 * z, rfl, (by omega), (by omega), ?_, ?_, ?_, rfl, hS⟩
    ·
     first | exact hp3.trans (hpu2.mono (by omega) (by omega)) | exact hp3
    ·
     first | exact (runs_merge (by omega) a30 hda3 hA hB hpu2 hsu2 (.inr ⟨rfl, by omega⟩) (by omega)).1 | exact runs_end (by omega) a30 hda3 hA hB (by omega) (by omega)
    ·
     first | exact hdu2 | exact hd3
   refine zsk <| ztn <| zrg ?_
   refine zlv xmv ?_
   refine zlv (xmul (r := 2 * z)) ?_
   refine zlv xas ?_
   refine zln <| zbn <| zlq ⟨t3, 2 * z, rfl, (by omega), (by omega), ?_, ?_, ?_, rfl, hS⟩
   ·
    first | exact hp3.trans (hpu2.mono (by omega) (by omega)) | exact hp3
   ·
    first | exact (runs_merge (by omega) a30 hda3 hA hB hpu2 hsu2 (.inr ⟨rfl, by omega⟩) (by omega)).1 | exact runs_end (by omega) a30 hda3 hA hB (by omega) (by omega)
   ·
    first | exact hdu2 | exact hd3
  refine zxt <| ztx <| ztx <| zbh <| zfn0 ⟨_, rfl, ?_⟩
  exact ⟨rfl, t2, hp2, runs_all hr2 (by omega), hS⟩
set_option maxRecDepth 20000 in
theorem c_sortsU {vd : Value} {n nm : Int} {s : Int → Int} {pv : Int → Value} {cnt : Int → Int} {lt : Int → Int → Prop} {F : Go.Proofs.Gw.Frame} (w0 w : World) (hS : Sat w0 w [.own vd 2 50 n (ucells (fun z9 => pv (s z9)) (fun z9 => cnt (s z9))), .sem F]) (hsl : Slh vd n) (hn8 : n ≤ 100000000) (hone : ∀ x, (pv x).oneCell' = true) (hcmp : ∀ (w : World) (x y : Int), 0 ≤ x → x < nm → 0 ≤ y → y < nm → Below w0.heap.size w0 w → F.holds w → Calls Try.prog 102 [.agg #[pv x, .int .i64 (cnt x)], .agg #[pv y, .int .i64 (cnt y)]].toArray w fun e w' => ∃ v, e = .returned v ∧ ∃ c : Int, v = .int .i64 c ∧ (c < 0 ↔ lt x y) ∧ Sat w w' []) (hd : ∀ k, 0 ≤ k → k < n → 0 ≤ s k ∧ s k < nm) (hw : Swo lt) (hinc : Incr 0 n s) :
    Calls Try.prog 101 [vd, .func (.func 102) #[] #[]].toArray w fun e w => ∃ v, e = .returned v ∧ v = .tuple #[] ∧ ∃ t : Int → Int, PermOn 0 n s t ∧ Srt (Tie lt) 0 n t ∧ Sat w0 w [.own vd 2 50 n (ucells (fun z9 => pv (t z9)) (fun z9 => cnt (t z9))), .sem F] := by
  refine zenF Try.func101 Try.ntmps101 ?_
  refine zrg ?_
  refine zs2 ?_
  refine zlv (xln sl_43 hsl) ?_
  refine zlv xmv ?_
  refine zlc (xc0 cl_116) (c_stableU (s := s) w0 w hS hsl hn8 hone hcmp hd hw hinc) ?_; rintro _ w ⟨rfl, u1, hpu1, hsu1, hS⟩
  replace hS := hS.n2
  refine zln <| zfn0 ⟨_, rfl, ?_⟩
  exact ⟨rfl, u1, hpu1, hsu1, hS⟩
theorem c_isnan {x : Int} (w0 : World) :
    Calls Try.prog 127 [.int .i64 x].toArray w0 fun e w => ∃ v, e = .returned v ∧ v = .bool false ∧ Sat w0 w [] := by
  refine zenG Try.func127 Try.ntmps127 fun w hS => ?_
  refine zsr ?_
  refine zlv xas ?_
  refine zlz ?_
  refine zs2 ?_
  refine zlv (xkf xneq) ?_
  refine zlv xas ?_
  refine zlt <| zrt <| zf1 ⟨_, rfl, ?_⟩
  exact ⟨rfl, hS⟩
def CmpR (x y c : Int) : Prop := (c = -1 ∧ x < y) ∨ (c = 0 ∧ x = y) ∨ (c = 1 ∧ y < x)
theorem c_cmpi {x y : Int} (w0 : World) :
    Calls Try.prog 117 [.int .i64 x, .int .i64 y].toArray w0 fun e w => ∃ v, e = .returned v ∧ ∃ c : Int, v = .int .i64 c ∧ CmpR x y c ∧ Sat w0 w [] := by
  refine zenG Try.func117 Try.ntmps117 fun w hS => ?_
  refine zsr ?_
  refine zlv xas ?_
  refine zlz ?_
  refine zlv xmv ?_
  refine zlc (xc0 cl_127) (c_isnan (x := x) w) ?_; rintro _ w ⟨rfl, hS'⟩
  replace hS := hS.cmp hS'; clear hS'
  refine zlv xas ?_
  refine zlz ?_
  refine zlv xmv ?_
  refine zlc (xc0 cl_127) (c_isnan (x := y) w) ?_; rintro _ w ⟨rfl, hS'⟩
  replace hS := hS.cmp hS'; clear hS'
  refine zlv xas ?_
  refine zlt <| zsq <| zsr ?_
  refine zlv xmv ?_
  refine zlt <| zcf <| zsk <| ztn <| zsq <| zsr ?_
  refine zlv xmv ?_
  refine zlt <| zcf <| zsk <| ztn <| zsq <| zsr ?_
  refine zs3 ?_
  refine zlt ?_
  refine zcif ?_ ?_ <;> intro hc
  ·
   refine zsr ?_
   refine zlv xas ?_
   refine zlt <| zrt <| ztr <| zf1 ⟨_, rfl, ?_⟩
   exact ⟨(-1), rfl, by unfold CmpR; omega, hS⟩
  refine zsk <| ztn <| zsq <| zsr ?_
  refine zs3 ?_
  refine zlt ?_
  refine zcif ?_ ?_ <;> intro hc
  ·
   refine zsr ?_
   refine zlv xas ?_
   refine zlt <| zrt <| ztr <| zf1 ⟨_, rfl, ?_⟩
   exact ⟨1, rfl, by unfold CmpR; omega, hS⟩
  refine zsk <| ztn <| zsr ?_
  refine zlv xas ?_
  refine zlt <| zrt <| zf1 ⟨_, rfl, ?_⟩
  exact ⟨0, rfl, by unfold CmpR; omega, hS⟩
set_option maxRecDepth 20000 in
theorem c_scmp {vA vB : Value} {n m : Int} {f g : Int → Int} (w0 : World) (hA : Row w0 vA 1 n (ints f)) (hB : Row w0 vB 1 m (ints g)) :
    Calls Try.prog 103 [vA, vB].toArray w0 fun e w => ∃ v, e = .returned v ∧ ∃ c : Int, v = .int .i64 c ∧ (c < 0 ↔ ahd (lst m g) (lst n f)) ∧ Sat w0 w [] := by
  have hn := hA.slh.n0; have hn1 := hA.slh.n1; have hm := hB.slh.n0; have hm1 := hB.slh.n1
  refine zenG Try.func103 Try.ntmps103 fun w hS => ?_
  refine zsr ?_
  refine zlv xas ?_
  refine zlt <| zsq <| zsr ?_
  refine zlv xmv ?_
  refine zlv (xln sl_22 hA.slh) ?_
  refine zlv xmv ?_
  refine zlt <| zbk <| zlp (fun mm M w => ∃ (i : Int), mm = ((n - i).toNat) ∧ (0 ≤ i) ∧ (i ≤ n) ∧ (i ≤ m) ∧ (∀ k, 0 ≤ k → k < i → f k = g k) ∧ M = [(0, vA), (1, vB), (9, vA), (10, .int .i64 n), (11, .int .i64 i)] ∧ Sat w0 w []) ⟨0, rfl, (by omega), (by omega), (by omega), ?_, rfl, hS⟩ ?_
  ·
   intro k h0 h1; omega
  clear hS w
  rintro mm M w ⟨i, rfl, h0, h1, h2, hall, rfl, hS⟩
  refine zsr ?_
  refine zlv xlss ?_
  refine zlt <| zsq ?_
  refine zcif ?_ ?_ <;> intro hc
  ·
   refine zsk <| ztn <| zsq <| zbk <| zsr ?_
   refine zlv xmv ?_
   refine zlv (xix (kk := i) sl_22 hA.slh) ?_
   refine zlv (xlr (u := .int .i64 (f i)) pl_3 (hA.below hS.below)) ?_
   refine zs2 ?_
   refine zlt <| zsq <| zsr ?_
   refine zs2 ?_
   refine zlv (xln sl_22 hB.slh) ?_
   refine zlv xgeq ?_
   refine zlt ?_
   refine zcif ?_ ?_ <;> intro hc
   ·
    refine zsr ?_
    refine zlv xas ?_
    refine zlt <| zrt <| ztr <| zbr <| ztr <| ztr <| zbr <| ztr <| zf1 ⟨_, rfl, ?_⟩
    exact ⟨1, rfl, ⟨fun h => by omega, fun h => absurd h (ahd_asym (ahd_long (by omega) (by omega) (fun k k0 k1 => hall k k0 (by omega))))⟩, hS⟩
   refine zsk <| ztn <| zsr ?_
   refine zs2 ?_
   refine zlv (xix (kk := i) sl_22 hB.slh) ?_
   refine zlv (xlr (u := .int .i64 (g i)) pl_3 (hB.below hS.below)) ?_
   refine zlv xas ?_
   refine zlz ?_
   refine zs2 ?_
   refine zlc (xc0 cl_117) (c_cmpi (x := (f i)) (y := (g i)) w) ?_; rintro _ w ⟨c1, rfl, hc1, hS'⟩
   replace hS := hS.cmp hS'; clear hS'
   refine zlv xas ?_
   refine zlz ?_
   refine zs2 ?_
   refine zlt ?_
   refine zcif ?_ ?_ <;> intro hc
   ·
    refine zsr ?_
    refine zs2 ?_
    refine zlt <| zrt <| zbr <| ztr <| ztr <| zbr <| ztr <| zf1 ⟨_, rfl, ?_⟩
    exact ⟨c1, rfl, ⟨fun h => ahd_gt (j := i) (by omega) (by omega) (by omega) (fun k k0 k1 => (hall k k0 k1).symm) (by unfold CmpR at hc1; omega), fun h => by
        unfold CmpR at hc1
        by_cases h9 : c1 < 0
        · exact h9
        · exact absurd h (ahd_asym (ahd_gt (j := i) (by omega) (by omega) (by omega) (fun k k0 k1 => hall k k0 k1) (by omega)))⟩, hS⟩
   refine zsk <| zbn <| ztn <| zrg ?_
   refine zlv (xadd (r := i + 1)) ?_
   refine zlv xmv ?_
   refine zln <| zlq ⟨i + 1, rfl, (by omega), (by omega), (by omega), ?_, rfl, hS⟩
   ·
    intro k h0' h1'; rcases Int.lt_or_eq_of_le (show k ≤ i by omega) with hk | hk; exact hall k h0' hk; rw [hk]; (unfold CmpR at hc1; omega)
  refine zxt <| ztx <| ztx <| zbh <| ztn <| zsq <| zsr ?_
  refine zlv xmv ?_
  refine zlv (xln sl_22 hA.slh) ?_
  refine zlv xmv ?_
  refine zlv (xln sl_22 hB.slh) ?_
  refine zlv xlss ?_
  refine zlt ?_
  refine zcif ?_ ?_ <;> intro hc
  ·
   refine zsr ?_
   refine zlv xas ?_
   refine zlt <| zrt <| ztr <| zf1 ⟨_, rfl, ?_⟩
   exact ⟨(-1), rfl, ⟨fun _ => ahd_long (by omega) (by omega) (fun k k0 k1 => (hall k k0 (by omega)).symm), fun _ => by omega⟩, hS⟩
  refine zsk <| ztn <| zsr ?_
  refine zlv xas ?_
  refine zlt <| zrt <| zf1 ⟨_, rfl, ?_⟩
  exact ⟨0, rfl, ⟨fun h => by omega, fun h => absurd h (by rw [show n = m by omega]; exact ahd_same (fun k k0 k1 => (hall k k0 (by omega)).symm))⟩, hS⟩
set_option maxRecDepth 20000 in
theorem c_ncmp {vA vB : Value} {n m : Int} {f g : Int → Int} {a b : Int} (w0 : World) (hA : Row w0 vA 1 n (ints f)) (hB : Row w0 vB 1 m (ints g)) :
    Calls Try.prog 102 [.agg #[vA, .int .i64 a], .agg #[vB, .int .i64 b]].toArray w0 fun e w => ∃ v, e = .returned v ∧ ∃ c : Int, v = .int .i64 c ∧ (c < 0 ↔ ahd (lst n f) (lst m g)) ∧ Sat w0 w [] := by
  refine zenG Try.func102 Try.ntmps102 fun w hS => ?_
  refine zsr ?_
  refine zla (xbx (cs := [_, _]) hS) ?_; rintro _ w ⟨g1, rfl, hS⟩
  replace hS := hS.n1
  refine zla (xbx (cs := [_, _]) hS) ?_; rintro _ w ⟨g2, rfl, hS⟩
  replace hS := hS.n2
  refine zlv xas ?_
  refine zlz ?_
  refine zlv (xfb 0 fd_50_0) ?_
  refine zlv (xlb 1 pl_22 hS) ?_
  refine zlv (xfb 0 fd_50_0) ?_
  refine zlv (xlb 0 pl_22 hS) ?_
  refine zlc (xc0 cl_103) (c_scmp (n := m) (f := g) (m := n) (g := f) w (hB.below hS.below) (hA.below hS.below)) ?_; rintro _ w ⟨c1, rfl, hc1, hS'⟩
  replace hS := hS.cmp hS'; clear hS'
  refine zlv xas ?_
  refine zlt <| zrt <| zf1 ⟨_, rfl, ?_⟩
  exact ⟨_, rfl, hc1, hS.nl⟩
set_option maxRecDepth 20000 in
theorem c_eqs {vA vB : Value} {n m : Int} {f g : Int → Int} (w0 : World) (hA : Row w0 vA 1 n (ints f)) (hB : Row w0 vB 1 m (ints g)) :
    Calls Try.prog 98 [vA, vB].toArray w0 fun e w => ∃ v, e = .returned v ∧ v = B (lst n f = lst m g) ∧ Sat w0 w [] := by
  have hn := hA.slh.n0; have hn1 := hA.slh.n1; have hm := hB.slh.n0; have hm1 := hB.slh.n1
  refine zenG Try.func98 Try.ntmps98 fun w hS => ?_
  refine zsr ?_
  refine zlv xas ?_
  refine zlt <| zsq <| zsr ?_
  refine zlv xmv ?_
  refine zlv (xln sl_22 hA.slh) ?_
  refine zlv xmv ?_
  refine zlv (xln sl_22 hB.slh) ?_
  refine zlv xneq ?_
  refine zlt ?_
  refine zcif ?_ ?_ <;> intro hc
  ·
   refine zsr ?_
   refine zlv xas ?_
   refine zlt <| zrt <| ztr <| zf1 ⟨_, rfl, ?_⟩
   exact ⟨false_B (by intro hh; have h9 := (lst_eq hn hm).1 hh; first | omega | (have := h9.2 i h0 (by omega); omega)), hS⟩
  refine zsk <| ztn <| zsq <| zsr ?_
  refine zlv xmv ?_
  refine zlv (xln sl_22 hA.slh) ?_
  refine zlv xmv ?_
  refine zlt <| zbk <| zlp (fun mm M w => ∃ (i : Int), mm = ((n - i).toNat) ∧ (0 ≤ i) ∧ (i ≤ n) ∧ (∀ k, 0 ≤ k → k < i → f k = g k) ∧ M = [(0, vA), (1, vB), (12, .int .i64 n), (13, .int .i64 i)] ∧ Sat w0 w []) ⟨0, rfl, (by omega), (by omega), ?_, rfl, hS⟩ ?_
  ·
   intro k h0 h1; omega
  clear hS w
  rintro mm M w ⟨i, rfl, h0, h1, hall, rfl, hS⟩
  refine zsr ?_
  refine zlv xlss ?_
  refine zlt <| zsq ?_
  refine zcif ?_ ?_ <;> intro hc
  ·
   refine zsk <| ztn <| zsq <| zbk <| zsr ?_
   refine zs2 ?_
   refine zlt <| zsq ?_
   refine zdst [] [] 1000 mx_ hS ?_; clear hS; intro w hS
   refine zdv 0 (fun _ => xmv) ?_
   refine zdv 1 (fun _ => xmv) ?_
   refine zdv 2 (fun _ => (xix (kk := i) sl_22 hA.slh)) ?_
   refine zdla 3 (fun w hS => (xlr (u := .int .i64 (f i)) pl_3 (hA.below hS.below))) ?_
   refine zdv 4 (fun _ => xmv) ?_
   refine zdv 5 (fun _ => xmv) ?_
   refine zdv 6 (fun _ => (xix (kk := i) sl_22 hB.slh)) ?_
   refine zdla 7 (fun w hS => (xlr (u := .int .i64 (g i)) pl_3 (hB.below hS.below))) ?_
   refine zdv 8 (fun _ => xneq) ?_
   refine zdd <| ztn ?_
   refine zcif ?_ ?_ <;> intro hc
   ·
    refine zsr ?_
    refine zlv xas ?_
    refine zlt <| zrt <| zbr <| ztr <| ztr <| zbr <| ztr <| zf1 ⟨_, rfl, ?_⟩
    exact ⟨false_B (by intro hh; have h9 := (lst_eq hn hm).1 hh; first | omega | (have := h9.2 i h0 (by omega); omega)), hS⟩
   refine zsk <| zbn <| ztn <| zrg ?_
   refine zlv (xadd (r := i + 1)) ?_
   refine zlv xmv ?_
   refine zln <| zlq ⟨i + 1, rfl, (by omega), (by omega), ?_, rfl, hS⟩
   ·
    intro k h0' h1'; rcases Int.lt_or_eq_of_le (show k ≤ i by omega) with hk | hk; exact hall k h0' hk; rw [hk]; omega
  refine zxt <| ztx <| ztx <| zbh <| ztn <| zsr ?_
  refine zlv xas ?_
  refine zlt <| zrt <| zf1 ⟨_, rfl, ?_⟩
  exact ⟨true_B (by exact (lst_eq hn hm).2 ⟨by omega, fun k k0 k1 => hall k k0 (by omega)⟩), hS⟩
set_option maxRecDepth 20000 in
theorem c_nn1 {vB : Value} {m b : Int} {g : Int → Int} {vA : Value} {n a : Int} {f : Int → Int} {gu : Nat} (w0 : World) (hG : (Ent.blk gu [vA, .int .i64 a]).holds w0) (hA : Row w0 vA 1 n (ints f)) (hB : Row w0 vB 1 m (ints g)) :
    Calls Try.prog 97 [.agg #[vB, .int .i64 b], .pointer (some ⟨gu, 0, none⟩)].toArray w0 fun e w => ∃ v, e = .returned v ∧ v = B (lst n f = lst m g) ∧ Sat w0 w [] := by
  refine zenG Try.func97 Try.ntmps97 fun w hS => ?_
  refine zsr ?_
  refine zla (xbx (cs := [_, _]) hS) ?_; rintro _ w ⟨g1, rfl, hS⟩
  replace hS := hS.n1
  refine zlv xas ?_
  refine zlz ?_
  refine zlv (xfb 0 fd_50_0) ?_
  refine zlv (xlf pl_22 (Ent.holds.cell hG (o := 0) rfl) hS) ?_
  refine zlv (xfb 0 fd_50_0) ?_
  refine zlv (xlb 0 pl_22 hS) ?_
  refine zlc (xc0 cl_98) (c_eqs (n := n) (f := f) (m := m) (g := g) w (hA.below hS.below) (hB.below hS.below)) ?_; rintro _ w ⟨rfl, hS'⟩
  replace hS := hS.cmp hS'; clear hS'
  refine zlv xas ?_
  refine zlt <| zrt <| zf1 ⟨_, rfl, ?_⟩
  exact ⟨rfl, hS.nl⟩
set_option maxRecDepth 20000 in
theorem c_ixn1 {vV : Value} {u : Int} {pv : Int → Value} {ln : Int → Int} {pt : Int → Int → Int} {cnt : Int → Int} {vA : Value} {n a : Int} {f : Int → Int} {gu : Nat} (w0 : World) (hV : VAt w0 vV u pv ln pt cnt) (hG : (Ent.blk gu [vA, .int .i64 a]).holds w0) (hA : Row w0 vA 1 n (ints f)) :
    Calls Try.prog 96 [vV, .func (.func 97) #[] #[.pointer (some ⟨gu, 0, none⟩)]].toArray w0 fun e w => ∃ v, e = .returned v ∧ ∃ r : Int, v = .int .i64 r ∧ ((r = -1 ∧ ∀ k, 0 ≤ k → k < u → ¬ (lst n f = lst (ln k) (pt k))) ∨ (0 ≤ r ∧ r < u ∧ (lst n f = lst (ln r) (pt r)) ∧ ∀ k, 0 ≤ k → k < r → ¬ (lst n f = lst (ln k) (pt k)))) ∧ Sat w0 w [] := by
  have hn := hV.row.slh.n0; have hn1 := hV.row.slh.n1
  refine zenG Try.func96 Try.ntmps96 fun w hS => ?_
  refine zsr ?_
  refine zlv xas ?_
  refine zlt <| zsq <| zsr ?_
  refine zlv xmv ?_
  refine zlv (xln sl_43 hV.row.slh) ?_
  refine zlv xmv ?_
  refine zlt <| zbk <| zlp (fun mm M w => ∃ (i : Int), mm = ((u - i).toNat) ∧ (0 ≤ i) ∧ (i ≤ u) ∧ (∀ k, 0 ≤ k → k < i → ¬ (lst n f = lst (ln k) (pt k))) ∧ M = [(0, vV), (1, .func (.func 97) #[] #[.pointer (some ⟨gu, 0, none⟩)]), (7, .int .i64 u), (8, .int .i64 i)] ∧ Sat w0 w []) ⟨0, rfl, (by omega), (by omega), ?_, rfl, hS⟩ ?_
  ·
   intro k h0 h1; omega
  clear hS w
  rintro mm M w ⟨i, rfl, h0, h1, hall, rfl, hS⟩
  refine zsr ?_
  refine zlv xlss ?_
  refine zlt <| zsq ?_
  refine zcif ?_ ?_ <;> intro hc
  ·
   refine zsk <| ztn <| zsq <| zbk <| zsr ?_
   refine zs2 ?_
   refine zlz ?_
   refine zs3 ?_
   refine zlv (xix (kk := 2 * i) sl_43 hV.row.slh) ?_
   refine zlv (xlw (cs := [(pv i), .int .i64 (cnt i)]) st_50 (hV.row.below hS.below) (ucells_at (k := 2 * i) (i := i) pv cnt (by omega))) ?_
   refine zlc (xcc (vs := [_]) cl_97) (c_nn1 (n := n) (f := f) (m := (ln i)) (g := (pt i)) w (Sat.oldblk hS hG) (hA.below hS.below) ((hV.p i (by omega) (by omega)).below hS.below)) ?_; rintro _ w ⟨rfl, hS'⟩
   replace hS := hS.cmp hS'; clear hS'
   refine zlt ?_
   refine zcif ?_ ?_ <;> intro hc
   ·
    refine zsr ?_
    refine zs2 ?_
    refine zlt <| zrt <| zbr <| ztr <| ztr <| zbr <| ztr <| zf1 ⟨_, rfl, ?_⟩
    exact ⟨i, rfl, .inr ⟨by omega, by omega, ‹lst n f = lst (ln i) (pt i)›, hall⟩, hS⟩
   refine zsk <| zbn <| ztn <| zrg ?_
   refine zlv (xadd (r := i + 1)) ?_
   refine zlv xmv ?_
   refine zln <| zlq ⟨i + 1, rfl, (by omega), (by omega), ?_, rfl, hS⟩
   ·
    intro k h0' h1'; rcases Int.lt_or_eq_of_le (show k ≤ i by omega) with hk | hk; exact hall k h0' hk; rw [hk]; assumption
  refine zxt <| ztx <| ztx <| zbh <| ztn <| zsr ?_
  refine zlv xas ?_
  refine zlt <| zrt <| zf1 ⟨_, rfl, ?_⟩
  exact ⟨-1, rfl, .inl ⟨rfl, fun k h0 h1 => hall k h0 (by omega)⟩, hS⟩
set_option maxRecDepth 20000 in
theorem c_nn2 {vB : Value} {m b : Int} {g : Int → Int} (w0 : World) (hB : Row w0 vB 1 m (ints g)) :
    Calls Try.prog 100 [.agg #[vB, .int .i64 b]].toArray w0 fun e w => ∃ v, e = .returned v ∧ v = B (b < 1) ∧ Sat w0 w [] := by
  refine zenG Try.func100 Try.ntmps100 fun w hS => ?_
  refine zsr ?_
  refine zla (xbx (cs := [_, _]) hS) ?_; rintro _ w ⟨g1, rfl, hS⟩
  replace hS := hS.n1
  refine zlv xas ?_
  refine zlz ?_
  refine zlv (xfb 1 fd_50_1) ?_
  refine zlv (xlb 0 pl_3 hS) ?_
  refine zs2 ?_
  refine zlt <| zrt <| zf1 ⟨_, rfl, ?_⟩
  exact ⟨rfl, hS.nl⟩
set_option maxRecDepth 20000 in
theorem c_ixn2 {vV : Value} {u : Int} {pv : Int → Value} {ln : Int → Int} {pt : Int → Int → Int} {cnt : Int → Int} (w0 : World) (hV : VAt w0 vV u pv ln pt cnt) (hpc : ∀ k, 0 ≤ k → k < u → 1 ≤ cnt k) :
    Calls Try.prog 96 [vV, .func (.func 100) #[] #[]].toArray w0 fun e w => ∃ v, e = .returned v ∧ v = .int .i64 (-1) ∧ Sat w0 w [] := by
  have hn := hV.row.slh.n0; have hn1 := hV.row.slh.n1
  refine zenG Try.func96 Try.ntmps96 fun w hS => ?_
  refine zsr ?_
  refine zlv xas ?_
  refine zlt <| zsq <| zsr ?_
  refine zlv xmv ?_
  refine zlv (xln sl_43 hV.row.slh) ?_
  refine zlv xmv ?_
  refine zlt <| zbk <| zlp (fun mm M w => ∃ (i : Int), mm = ((u - i).toNat) ∧ (0 ≤ i) ∧ (i ≤ u) ∧ M = [(0, vV), (1, .func (.func 100) #[] #[]), (7, .int .i64 u), (8, .int .i64 i)] ∧ Sat w0 w []) ⟨0, rfl, (by omega), (by omega), rfl, hS⟩ ?_
  clear hS w
  rintro mm M w ⟨i, rfl, h0, h1, rfl, hS⟩
  refine zsr ?_
  refine zlv xlss ?_
  refine zlt <| zsq ?_
  refine zcif ?_ ?_ <;> intro hc
  ·
   refine zsk <| ztn <| zsq <| zbk <| zsr ?_
   refine zs2 ?_
   refine zlz ?_
   refine zs3 ?_
   refine zlv (xix (kk := 2 * i) sl_43 hV.row.slh) ?_
   refine zlv (xlw (cs := [(pv i), .int .i64 (cnt i)]) st_50 (hV.row.below hS.below) (ucells_at (k := 2 * i) (i := i) pv cnt (by omega))) ?_
   refine zlc (xc0 cl_100) (c_nn2 (b := (cnt i)) w ((hV.p i (by omega) (by omega)).below hS.below)) ?_; rintro _ w ⟨rfl, hS'⟩
   replace hS := hS.cmp hS'; clear hS'
   refine zlt ?_
   refine zcif ?_ ?_ <;> intro hc
   ·
    refine zsr ?_
    refine zs2 ?_
    refine zlt <| zrt <| zbr <| ztr <| ztr <| zbr <| ztr <| zf1 ⟨_, rfl, ?_⟩
    have := hpc i h0 (by omega)
    omega
   refine zsk <| zbn <| ztn <| zrg ?_
   refine zlv (xadd (r := i + 1)) ?_
   refine zlv xmv ?_
   refine zln <| zlq ⟨i + 1, rfl, (by omega), (by omega), rfl, hS⟩
  refine zxt <| ztx <| ztx <| zbh <| ztn <| zsr ?_
  refine zlv xas ?_
  refine zlt <| zrt <| zf1 ⟨_, rfl, ?_⟩
  exact ⟨rfl, hS⟩
set_option maxRecDepth 20000 in
theorem c_delu {vV : Value} {u : Int} {pv : Int → Value} {ln : Int → Int} {pt : Int → Int → Int} {cnt : Int → Int} (w0 : World) (hV : VAt w0 vV u pv ln pt cnt) (hpc : ∀ k, 0 ≤ k → k < u → 1 ≤ cnt k) :
    Calls Try.prog 99 [vV, .func (.func 100) #[] #[]].toArray w0 fun e w => ∃ v, e = .returned v ∧ vV = v ∧ Sat w0 w [] := by
  refine zenG Try.func99 Try.ntmps99 fun w hS => ?_
  refine zsr ?_
  refine zlv xas ?_
  refine zlz ?_
  refine zs2 ?_
  refine zlc (xc0 cl_96) (c_ixn2 (u := u) (pv := pv) (ln := ln) (pt := pt) (cnt := cnt) w (hV.below hS.below) hpc) ?_; rintro _ w ⟨rfl, hS'⟩
  replace hS := hS.cmp hS'; clear hS'
  refine zlv xas ?_
  refine zlt <| zsq <| zsr ?_
  refine zlv xmv ?_
  refine zlv (xkt xeql) ?_
  refine zlt <| zct <| zsr ?_
  refine zs2 ?_
  refine zlt <| zrt <| ztr <| zf1 ⟨_, rfl, ?_⟩
  exact ⟨rfl, hS⟩
theorem norm_new {nO i : Int} {lO ln cO cnt : Int → Int} {gO pt : Int → Int → Int} (n0 : 0 ≤ nO) (i0 : 0 ≤ i) (hs : plL nO lO gO cO = sums (plL i ln pt cnt)) (hne : ∀ k, 0 ≤ k → k < nO → ¬ (lst (ln i) (pt i) = lst (lO k) (gO k))) :
    plL (nO + 1) (gsn lO nO (ln i)) (gsn gO nO (pt i)) (snoc cO nO (cnt i)) = sums (plL (i + 1) ln pt cnt) := by
  rw [plL_next i0, sums_snoc, ← hs, addU_new fun v hv e => by
    obtain ⟨j, hj⟩ := List.mem_iff_getElem?.1 hv
    rw [plL_get] at hj
    split at hj
    · injection hj with hj
      rw [← hj] at e
      exact hne j (by omega) (by assumption) e.symm
    · cases hj]
  exact plL_snoc n0 (fun k k0 k1 => ⟨gsn_lt k1, snoc_lt k1, gsn_lt k1⟩) (gsn_at (by omega)) (snoc_at (by omega)) (gsn_at (by omega))
theorem norm_at {nO i r : Int} {lO ln cO cnt : Int → Int} {gO pt : Int → Int → Int} (i0 : 0 ≤ i) (hs : plL nO lO gO cO = sums (plL i ln pt cnt)) (r0 : 0 ≤ r) (r1 : r < nO) (e : lst (ln i) (pt i) = lst (lO r) (gO r)) (hne : ∀ k, 0 ≤ k → k < r → ¬ (lst (ln i) (pt i) = lst (lO k) (gO k))) :
    plL nO lO gO (upd cO r (cO r + cnt i)) = sums (plL (i + 1) ln pt cnt) := by
  rw [plL_next i0, sums_snoc, ← hs, addU_at (j := r.toNat) (v := (lst (lO r) (gO r), cO r)) (by rw [plL_get, Int.toNat_of_nonneg r0, if_pos r1]) e.symm fun k hk w hw h => by
    rw [plL_get, if_pos (by omega)] at hw
    injection hw with hw
    rw [← hw] at h
    exact hne k (by omega) (by omega) h.symm]
  apply List.ext_getElem?
  intro k
  rw [List.getElem?_set, plL_get, plL_get, plL_len]
  unfold upd
  by_cases hk : (k : Int) < nO
  · rw [if_pos hk, if_pos hk]
    by_cases hr : r.toNat = k
    · have hr' : (k : Int) = r := by omega
      rw [if_pos hr', if_pos hr, if_pos (by omega), hr']
    · have hr' : ¬ (k : Int) = r := by omega
      rw [if_neg hr', if_neg hr]
  · rw [if_neg hk, if_neg hk, if_neg (by omega)]
theorem nb_new {cC : Int → Int} {nC B C x : Int} (h : ∀ k, 0 ≤ k → k < nC → 1 ≤ cC k ∧ cC k ≤ B) (hB : B ≤ C) (x1 : 1 ≤ x) (x2 : x ≤ C) : ∀ k, 0 ≤ k → k < nC + 1 → 1 ≤ snoc cC nC x k ∧ snoc cC nC x k ≤ C := fun k k0 k1 => by
  by_cases e : k < nC
  · rw [snoc_lt e]; have := h k k0 e; omega
  · rw [snoc_at e]; omega
theorem nb_at {cC : Int → Int} {nC B C x r : Int} (h : ∀ k, 0 ≤ k → k < nC → 1 ≤ cC k ∧ cC k ≤ B) (hB : B ≤ C) (x1 : 1 ≤ x) (x2 : x ≤ C) : ∀ k, 0 ≤ k → k < nC → 1 ≤ upd cC r x k ∧ upd cC r x k ≤ C := fun k k0 k1 => by
  unfold upd
  by_cases e : k = r
  · rw [if_pos e]; omega
  · rw [if_neg e]; have := h k k0 k1; omega
set_option maxHeartbeats 4000000 in
set_option maxRecDepth 20000 in
theorem c_norm {vV : Value} {u : Int} {pv : Int → Value} {ln : Int → Int} {pt : Int → Int → Int} {cnt : Int → Int} (w0 : World) (hV : VAt w0 vV u pv ln pt cnt) (hn5 : u ≤ 10000000) (hlc : ∀ k, 0 ≤ k → k < u → ln k ≤ 100000) (hpc : ∀ k, 0 ≤ k → k < u → 1 ≤ cnt k ∧ cnt k ≤ 1000) :
    Calls Try.prog 80 [vV].toArray w0 fun e w => ∃ v, e = .returned v ∧ ∃ r n2 pv2 ln2 pt2 cnt2, v = r ∧ NormR (plL u ln pt cnt) (plL n2 ln2 pt2 cnt2) ∧ 0 ≤ n2 ∧ n2 ≤ u ∧ (∀ k, 0 ≤ k → k < n2 → 1 ≤ cnt2 k ∧ cnt2 k ≤ 1000 * u) ∧ Slh r n2 ∧ Sat w0 w [.own r 2 50 n2 (ucells pv2 cnt2), .sem (Frame.rows 3 n2 pv2 ln2 pt2)] := by
  have hn := hV.row.slh.n0; have hn1 := hV.row.slh.n1
  refine zenG Try.func80 Try.ntmps80 fun w hS => ?_
  refine zsr ?_
  refine zlv xas ?_
  refine zlz ?_
  refine zlv xas ?_
  refine zlt <| zsq <| zsr ?_
  refine zlv xmv ?_
  refine zlv (xln sl_43 hV.row.slh) ?_
  refine zlv xmv ?_
  refine zlt <| zbk ?_
  replace hS := hS.addnil 2 50 (ucells (fun _ => Value.slice none 0 0) (fun _ => 0))
  replace hS := hS.n1
  replace hS := hS.addrows 3 (fun _ => Value.slice none 0 0) (fun _ => 0) (fun _ _ => 0)
  replace hS := hS.n2
  replace hS := hS.n2
  have hrs0 := fun k (k0 : 0 ≤ k) (k1 : k < 0) => hS.slhIn 1 rfl k0 k1
  refine zlp (fun mm M w => ∃ (nC : Int) (wv : Int → Value) (lC : Int → Int) (gC : Int → Int → Int) (cC : Int → Int) (i : Int) (wC : Value), mm = ((u - i).toNat) ∧ (0 ≤ i) ∧ (i ≤ u) ∧ (0 ≤ nC ∧ nC ≤ i) ∧ (plL nC lC gC cC = sums (plL i ln pt cnt)) ∧ (∀ k, 0 ≤ k → k < nC → 1 ≤ cC k ∧ cC k ≤ 1000 * i) ∧ (∀ x, (wv x).oneCell' = true) ∧ (Slh wC nC) ∧ M = [(2, .slice none 0 0), (3, wC), (7, vV), (8, .int .i64 u), (9, .int .i64 i)] ∧ Sat w0 w [.own wC 2 50 nC (ucells wv cC), .sem (Frame.rows 3 nC wv lC gC)]) ⟨0, (fun _ => Value.slice none 0 0), (fun _ => 0), (fun _ _ => 0), (fun _ => 0), 0, (.slice none 0 0), rfl, (by omega), (by omega), (by omega), ?_, ?_, ?_, ?_, rfl, hS⟩ ?_
  ·
   rfl
  ·
   intro k k0 k1; omega
  ·
   intro x; rfl
  ·
   exact slh_nil
  clear hS w
  rintro mm M w ⟨nC, wv, lC, gC, cC, i, wC, rfl, h0, h1, hnC, hs, hbc, hone, hwC, rfl, hS⟩
  have hrs1 := fun k (k0 : 0 ≤ k) (k1 : k < nC) => hS.slhIn 1 rfl k0 k1
  refine zsr ?_
  refine zlv xlss ?_
  refine zlt <| zsq ?_
  refine zcif ?_ ?_ <;> intro hc
  ·
   refine zsk <| ztn <| zsq <| zbk <| zsr ?_
   refine zlv (xix (kk := 2 * i) sl_43 hV.row.slh) ?_
   refine zlv (xlw (cs := [(pv i), .int .i64 (cnt i)]) st_50 (hV.row.below hS.below) (ucells_at (k := 2 * i) (i := i) pv cnt (by omega))) ?_
   have hci := hpc i h0 (by omega)
   have hli := hlc i h0 (by omega)
   refine zla (xal (cs := [_, _]) el_50 hS) ?_; rintro _ w ⟨g1, rfl, hS⟩
   replace hS := hS.n3
   refine zle (xsw 2 st_50 hS (hd := (ones_cons (hV.p i (by omega) (by omega)).slh.one (ones_cons rfl ones_nil)))) ?_; clear hS; rintro w hS
   replace hS := hS.n3
   refine zlz ?_
   refine zlv xmv ?_
   refine zlv xmf ?_
   refine zlc (xc0 cl_96) (c_ixn1 (u := nC) (pv := wv) (ln := lC) (pt := gC) (cnt := cC) (n := (ln i)) (f := (pt i)) w (⟨(hS.rowN 0 rfl), fun k k0 k1 => hS.rowIn 1 rfl k0 k1, fun k k0 k1 => hS.roomIn 1 rfl k0 k1⟩ : VAt _ wC nC wv lC gC cC) (hS.holds _ (List.mem_of_getElem? (i := 2) rfl)) ((hV.p i (by omega) (by omega)).below hS.below)) ?_; rintro _ w ⟨r1, rfl, hr1, hS'⟩
   replace hS := hS.cmp hS'; clear hS'
   have hbr : 0 ≤ r1 → 1 ≤ cC r1 ∧ cC r1 ≤ 1000 * i := fun h => hbc r1 h (by rcases hr1 with ⟨h2, _⟩ | ⟨_, h2, _⟩ <;> omega)
   have hrr : r1 = -1 ∨ (0 ≤ r1 ∧ r1 < nC) := by rcases hr1 with ⟨h2, _⟩ | ⟨h2, h3, _⟩ <;> omega
   refine zlv xas ?_
   refine zlz ?_
   refine zs2 ?_
   refine zlt ?_
   refine zcif ?_ ?_ <;> intro hc
   ·
    refine zdst [0, 1, 2] [1, 2] 10 mx_ hS ?_; clear hS; intro w hS
    refine zdv 0 (fun _ => xmv) ?_
    refine zdv 1 (fun _ => xmv) ?_
    refine zdv 2 (fun _ => (xix (kk := 2 * r1) sl_43 hwC)) ?_
    refine zdv 3 (fun _ => (xfc (kk := 2 * r1 + 1) fd_50_1 hwC)) ?_
    refine zdl 4 (fun w hS => (xlr (u := .int .i64 (cC r1)) pl_3 (hS.rowN 0 rfl) (e := (ucells1 wv cC (by omega))))) ?_
    refine zdv 5 (fun _ => (xfb 1 fd_50_1)) ?_
    refine zdla 6 (fun w hS => (xlb 1 pl_3 hS)) ?_
    refine zdv 7 (fun _ => (xadd (r := (cC r1) + (cnt i)))) ?_
    refine zdv 8 (fun _ => (xix (kk := 2 * r1) sl_43 hwC)) ?_
    refine zdv 9 (fun _ => (xfc (kk := 2 * r1 + 1) fd_50_1 hwC)) ?_
    refine zde 10 (xso 0 pl_3 hS (upd_ucells1 (k := 2 * r1 + 1) (i := r1) _ _ (by omega))) ?_; clear hS; rintro w hS
    replace hS := hS.n3
    refine ⟨⟨fun h => absurd h (by decide), hS.pk [1, 2]⟩, ?_⟩
    refine zdd <| zbn <| ztn <| zrg ?_
    refine zlv (xadd (r := i + 1)) ?_
    refine zlv xmv ?_
    refine zln <| zlq ⟨nC, wv, lC, gC, (upd cC r1 ((cC r1) + (cnt i))), i + 1, wC, rfl, (by omega), (by omega), (by omega), ?_, ?_, ?_, ?_, rfl, hS.pk [0, 1]⟩
    ·
     first | exact norm_new (by omega) h0 hs (hr1.resolve_right (fun h => by omega)).2 | (have hr9 := hr1.resolve_left (fun h => by omega); exact norm_at h0 hs hr9.1 hr9.2.1 hr9.2.2.1 hr9.2.2.2)
    ·
     first | exact nb_new hbc (by omega) (by omega) (by omega) | exact nb_at hbc (by omega) (by omega) (by omega)
    ·
     first | exact hone | exact gsn_one hone ‹Slh _ _›.one
    ·
     exact hwC
   refine zdst [2] [2] 1000 mx_ hS ?_; clear hS; intro w hS
   refine zdv 0 (fun _ => xmv) ?_
   refine zdv 1 (fun _ => (xfb 0 fd_50_0)) ?_
   refine zdla 2 (fun w hS => (xlb 0 pl_22 hS)) ?_
   refine zdv 4 (fun _ => (xfb 1 fd_50_1)) ?_
   refine zdla 5 (fun w hS => (xlb 0 pl_3 hS)) ?_
   refine zdc 3 (xc0 cl_42) (c_clone (n := (ln i)) (f := (pt i)) w ((hV.p i (by omega) (by omega)).below hS.below) (by omega)) ?_; rintro vq1 w ⟨_, rfl, hslq1, hS'⟩
   replace hS : Sat w0 w [.own wC 2 50 nC (ucells wv cC), .sem (Frame.rows 3 nC wv lC gC), .blk g1 [(pv i), .int .i64 (cnt i)], .own vq1 1 3 (ln i) (ints (pt i))] := hS.comp hS'; clear hS'
   refine ⟨⟨fun _ => hS.pk [2], hS.pk [2]⟩, ?_⟩
   refine zdv 6 (fun _ => (xany (v := .agg #[vq1, .int .i64 (cnt i)]) (hr := by obtain ⟨_, _, _, _, rfl, _⟩ := hslq1; kernel_rfl))) ?_
   refine zda 7 (xli (n := 1) (len := 1) (pv := [(0, .agg #[vq1, .int .i64 (cnt i)])]) (cs := [vq1, .int .i64 (cnt i)]) (c := ucells (fun _ => vq1) (fun _ => (cnt i))) sl_43 el_50 hS (hf := by obtain ⟨_, _, _, _, rfl, _⟩ := hslq1; kernel_rfl)) ?_; rintro v1 w ⟨hS, hv1⟩
   replace hS := hS.n5
   refine ⟨⟨fun _ => hS.pk [2], hS.pk [2]⟩, ?_⟩
   refine zda 8 (xap 0 (r := nC + 1) sl_43 el_50 hS (hS.rowN 4 rfl) (cat_ucells _ _ _ _ _) (h1 := fun k _ _ => ucells_one (fun _ => hslq1.one) k)) ?_; rintro v2 w ⟨hS, hv2⟩
   replace hS := hS.n5
   replace hS := Sat.merge (l1 := [_]) (l2 := [_]) (l3 := [_]) hS (by omega)
   have hrs2 := fun k (k0 : 0 ≤ k) (k1 : k < nC + 1) => hS.slhIn 1 rfl k0 k1
   replace hS := hS.n4
   refine ⟨⟨fun _ => hS.pk [2], hS.pk [2]⟩, ?_⟩
   refine zdv 9 (fun _ => xas) ?_
   refine zdd <| zbn <| ztn <| zrg ?_
   refine zlv (xadd (r := i + 1)) ?_
   refine zlv xmv ?_
   refine zln <| zlq ⟨nC + 1, gsn wv nC vq1, gsn lC nC (ln i), gsn gC nC (pt i), (snoc cC nC (cnt i)), i + 1, v2, rfl, (by omega), (by omega), (by omega), ?_, ?_, ?_, ?_, rfl, hS.pk [0, 1]⟩
   ·
    first | exact norm_new (by omega) h0 hs (hr1.resolve_right (fun h => by omega)).2 | (have hr9 := hr1.resolve_left (fun h => by omega); exact norm_at h0 hs hr9.1 hr9.2.1 hr9.2.2.1 hr9.2.2.2)
   ·
    first | exact nb_new hbc (by omega) (by omega) (by omega) | exact nb_at hbc (by omega) (by omega) (by omega)
   ·
    first | exact hone | exact gsn_one hone ‹Slh _ _›.one
   ·
    exact hv2
  refine zxt <| ztx <| ztx <| zbh <| ztn <| zsr ?_
  refine zlv xmv ?_
  refine zlc (xc0 cl_99) (c_delu (u := nC) (pv := wv) (ln := lC) (pt := gC) (cnt := cC) w (⟨(hS.rowN 0 rfl), fun k k0 k1 => hS.rowIn 1 rfl k0 k1, fun k k0 k1 => hS.roomIn 1 rfl k0 k1⟩ : VAt _ wC nC wv lC gC cC) (fun k k0 k1 => (hbc k k0 k1).1)) ?_; rintro _ w ⟨rfl, hS'⟩
  replace hS := hS.cmp hS'; clear hS'
  refine zlv xas ?_
  refine zlz ?_
  refine zlv xmv ?_
  refine zlc (xc0 cl_101) (c_sortsU (vd := wC) (n := nC) (nm := nC) (s := fun k => k) (pv := wv) (cnt := cC) (lt := fun x y => ahd (lst (lC x) (gC x)) (lst (lC y) (gC y))) (F := Frame.rows 3 nC wv lC gC) w0 w (hS.pk [0, 1]) hwC (by omega) hone (fun w x y x0 x1 y0 y1 _ hF => c_ncmp w (hF.1 x x0 x1).row (hF.1 y y0 y1).row) (fun k k0 k1 => ⟨k0, k1⟩) (swo_ahd fun x => lst (lC x) (gC x)) (fun i j _ h _ => h)) ?_; rintro _ w ⟨rfl, t1, hpt1, hst1, hS⟩
  replace hS := hS.pmrows 1 hpt1
  replace hS : Sat w0 w [.own wC 2 50 nC (ucells (fun k => wv (t1 k)) (fun k => cC (t1 k))), .sem (Frame.rows 3 nC (fun k => wv (t1 k)) (fun k => lC (t1 k)) (fun k => gC (t1 k)))] := hS
  refine zlz ?_
  refine zs2 ?_
  refine zlt <| zrt <| zf1 ⟨_, rfl, ?_⟩
  obtain rfl : i = u := by omega
  exact ⟨_, _, _, _, _, _, rfl, .of_names hnC.1 hs hpt1 hst1, hnC.1, hnC.2, fun k k0 k1 => (by obtain ⟨q, q0, q1, q2⟩ := hpt1.fr k0 k1; rw [show t1 k = q from q2]; exact hbc q q0 q1), hwC, hS⟩
end Go.Proofs.Ytopmifmfecfaaaa
namespace Go.Proofs.Gw
def incr1 (p : List Int) (x : Int) : List Int := p.modify x.toNat (· + 1)
def ffPut (m room : Int) (sz : Int → Int) (x : Int) : Us → Us
  | [] => [(incr1 (lst m fun _ => 0) x, room - sz x)]
  | b :: r => if sz x ≤ b.2 then (incr1 b.1 x, b.2 - sz x) :: r else b :: ffPut m room sz x r
def ffRun (m room : Int) (sz : Int → Int) (l : List Int) : Us := l.foldl (fun s x => ffPut m room sz x s) []
theorem ffRun_snoc (m room : Int) (sz : Int → Int) (l : List Int) (x : Int) : ffRun m room sz (l ++ [x]) = ffPut m room sz x (ffRun m room sz l) := by simp [ffRun]
theorem ffPut_new {m room : Int} {sz : Int → Int} {x : Int} : ∀ {s : Us}, (∀ b ∈ s, b.2 < sz x) → ffPut m room sz x s = s ++ [(incr1 (lst m fun _ => 0) x, room - sz x)]
  | [], _ => rfl
  | b :: r, h => by
    have h1 := h b (by simp)
    rw [ffPut, if_neg (by omega), ffPut_new fun c hc => h c (by simp [hc])]; rfl
theorem ffPut_at {m room : Int} {sz : Int → Int} {x : Int} : ∀ {s : Us} {j : Nat} {b : List Int × Int}, s[j]? = some b → sz x ≤ b.2 → (∀ k < j, ∀ c, s[k]? = some c → c.2 < sz x) → ffPut m room sz x s = s.set j (incr1 b.1 x, b.2 - sz x)
  | [], _, _, h, _, _ => by simp at h
  | c :: r, 0, b, h, e, _ => by
    simp at h; subst h
    rw [ffPut, if_pos e]; rfl
  | c :: r, j + 1, b, h, e, hk => by
    simp at h
    have h1 := hk 0 (by omega) c (by simp)
    rw [ffPut, if_neg (by omega), ffPut_at h e fun k hk' d hd => hk (k + 1) (by omega) d (by simpa using hd)]; rfl
theorem incr1_lst {m x : Int} {f : Int → Int} (x0 : 0 ≤ x) : incr1 (lst m f) x = lst m (fun k => if k = x then f k + 1 else f k) := by
  apply List.ext_getElem?
  intro k
  unfold incr1
  rw [List.getElem?_modify, lst_get, lst_get]
  by_cases hk : (k : Int) < m
  · rw [if_pos hk, if_pos hk]
    by_cases hx : x.toNat = k
    · have hx' : (k : Int) = x := by omega
      simp [hx, hx']
    · have hx' : ¬ (k : Int) = x := by omega
      simp [hx, hx']
  · rw [if_neg hk, if_neg hk]; rfl
theorem ff_at {n m room : Int} {sz : Int → Int} {P P' : Int → Int → Int} {L L' : Int → Int} {x k : Int} (n0 : 0 ≤ n) (x0 : 0 ≤ x) (k0 : 0 ≤ k) (kn : k < n) (h : sz x ≤ L k) (hf : ∀ j, 0 ≤ j → j < k → L j < sz x)
    (hP : ∀ a, 0 ≤ a → a < n → ∀ b, 0 ≤ b → b < m → P' a b = if a = k ∧ b = x then P a b + 1 else P a b) (hL : ∀ a, 0 ≤ a → a < n → L' a = if a = k then L a - sz x else L a) : plL n (fun _ => m) P' L' = ffPut m room sz x (plL n (fun _ => m) P L) := by
  have hg : (plL n (fun _ => m) P L)[k.toNat]? = some (lst m (P k), L k) := by rw [plL_get, Int.toNat_of_nonneg k0, if_pos kn]
  rw [ffPut_at hg h fun j hj c hc => by
    rw [plL_get, if_pos (by omega)] at hc; injection hc with hc; rw [← hc]; exact hf j (by omega) (by omega)]
  apply List.ext_getElem?
  intro j
  rw [List.getElem?_set, plL_get, plL_get, plL_len]
  by_cases hj : (j : Int) < n
  · rw [if_pos hj, if_pos hj, hL j (by omega) hj]
    by_cases hjk : k.toNat = j
    · rw [if_pos hjk, if_pos (by omega), if_pos (by omega)]
      rw [incr1_lst x0, show (j : Int) = k by omega]
      congr 2
      apply lst_congr; intro b b0 b1
      rw [hP k k0 kn b b0 b1]
      by_cases hb : b = x
      · rw [if_pos ⟨rfl, hb⟩, if_pos hb]
      · rw [if_neg fun h => hb h.2, if_neg hb]
    · rw [if_neg hjk, if_neg (by omega)]
      congr 2
      apply lst_congr; intro b b0 b1
      rw [hP j (by omega) hj b b0 b1, if_neg fun h => hjk (by omega)]
  · rw [if_neg hj, if_neg hj]
    by_cases hjk : k.toNat = j
    · omega
    · rw [if_neg hjk]
theorem ff_new {n m room : Int} {sz : Int → Int} {P P' : Int → Int → Int} {L L' : Int → Int} {x : Int} (n0 : 0 ≤ n) (x0 : 0 ≤ x) (hf : ∀ j, 0 ≤ j → j < n → L j < sz x)
    (hP : ∀ a, 0 ≤ a → a < n → ∀ b, 0 ≤ b → b < m → P' a b = P a b) (hN : ∀ b, 0 ≤ b → b < m → P' n b = if b = x then 1 else 0) (hL : ∀ a, 0 ≤ a → a < n → L' a = L a) (hl : L' n = room - sz x) : plL (n + 1) (fun _ => m) P' L' = ffPut m room sz x (plL n (fun _ => m) P L) := by
  rw [ffPut_new fun b hb => by
    obtain ⟨j, hj⟩ := List.mem_iff_getElem?.1 hb
    rw [plL_get] at hj
    split at hj
    · injection hj with hj; rw [← hj]; exact hf j (by omega) (by assumption)
    · cases hj]
  rw [plL_next n0, hl]
  congr 1
  · exact plL_congr fun k k0 k1 => ⟨rfl, hL k k0 k1, fun j j0 j1 => hP k k0 k1 j j0 j1⟩
  · rw [incr1_lst x0]
    congr 2
    apply lst_congr; intro b b0 b1
    rw [hN b b0 b1]
    by_cases hb : b = x
    · rw [if_pos hb, if_pos hb]; rfl
    · rw [if_neg hb, if_neg hb]
def pcs (d : Int → Int) : Nat → List Int
  | 0 => []
  | k + 1 => pcs d k ++ List.replicate (d k).toNat (k : Int)
def pcsTo (d : Int → Int) (i c : Int) : List Int := pcs d i.toNat ++ List.replicate c.toNat i
theorem pcsTo_next (d : Int → Int) {i c : Int} (c0 : 0 ≤ c) : pcsTo d i (c + 1) = pcsTo d i c ++ [i] := by
  unfold pcsTo; rw [show (c + 1).toNat = c.toNat + 1 by omega, List.replicate_succ', List.append_assoc]
theorem pcsTo_kind (d : Int → Int) {i c : Int} (i0 : 0 ≤ i) (hc : c.toNat = (d i).toNat) : pcsTo d (i + 1) 0 = pcsTo d i c := by
  unfold pcsTo; rw [show (i + 1).toNat = i.toNat + 1 by omega, pcs, Int.toNat_of_nonneg i0, hc]; simp
def psum (f d : Int → Int) : Nat → Int
  | 0 => 0
  | k + 1 => psum f d k + f k * d k
theorem psum_next (f d : Int → Int) {i : Int} (h : 0 ≤ i) : psum f d (i + 1).toNat = psum f d i.toNat + f i * d i := by
  rw [show (i + 1).toNat = i.toNat + 1 by omega, psum, Int.toNat_of_nonneg h]
theorem sum_rep (f : Int → Int) (x : Int) : ∀ n : Nat, ((List.replicate n x).map f).sum = f x * n
  | 0 => by simp
  | n + 1 => by rw [List.replicate_succ, List.map_cons, List.sum_cons, sum_rep f x n]; push_cast; rw [Int.mul_add]; omega
theorem pcs_sum (f d : Int → Int) : ∀ n : Nat, (∀ k : Nat, k < n → 0 ≤ d k) → ((pcs d n).map f).sum = psum f d n
  | 0, _ => by simp [pcs, psum]
  | n + 1, h => by
    have h0 := h n (by omega)
    rw [pcs, List.map_append, List.sum_append, pcs_sum f d n fun k hk => h k (by omega), sum_rep, psum, Int.toNat_of_nonneg h0]
theorem pcsTo_sum (f d : Int → Int) {i c : Int} (i0 : 0 ≤ i) (c0 : 0 ≤ c) (h : ∀ k, 0 ≤ k → k < i → 0 ≤ d k) : ((pcsTo d i c).map f).sum = psum f d i.toNat + f i * c := by
  unfold pcsTo; rw [List.map_append, List.sum_append, pcs_sum f d _ fun k hk => h k (by omega) (by omega), sum_rep, Int.toNat_of_nonneg c0]
theorem pcsTo_len (d : Int → Int) {i c : Int} (i0 : 0 ≤ i) (c0 : 0 ≤ c) (h : ∀ k, 0 ≤ k → k < i → 0 ≤ d k) : ((pcsTo d i c).length : Int) = psum (fun _ => 1) d i.toNat + c := by
  have h1 := pcsTo_sum (fun _ => 1) d i0 c0 h
  have h2 : ∀ l : List Int, (l.map fun _ => (1 : Int)).sum = l.length := fun l => by
    induction l with
    | nil => rfl
    | cons a l ih => rw [List.map_cons, List.sum_cons, ih, List.length_cons]; push_cast; omega
  rw [h2] at h1; omega
theorem psum_mono {d : Int → Int} {f : Int → Int} : ∀ {i n : Nat}, i ≤ n → (∀ k : Nat, k < n → 0 ≤ f k * d k) → psum f d i ≤ psum f d n := by
  intro i n hin h
  induction hin with
  | refl => exact Int.le_refl _
  | step hh ih => 
    have h1 := ih fun k hk => h k (by omega)
    have h2 := h _ (Nat.lt_succ_self _)
    simp only [psum]; omega
def puse (sz : Int → Int) (p : List Int) : Int := ((List.range p.length).map fun (k : Nat) => p.getD k 0 * sz k).sum
theorem sum_map_congr {α : Type} {f g : α → Int} {l : List α} (h : ∀ x ∈ l, f x = g x) : (l.map f).sum = (l.map g).sum := by rw [List.map_congr_left h]
theorem sum_one {f : Nat → Int} {x : Nat} {c : Int} : ∀ {n : Nat}, x < n → ((List.range n).map fun k => if k = x then f k + c else f k).sum = ((List.range n).map f).sum + c
  | 0, h => by omega
  | n + 1, h => by
    rw [List.range_succ, List.map_append, List.map_append, List.sum_append, List.sum_append]
    by_cases hx : x = n
    · subst hx
      rw [sum_map_congr (g := f) fun k hk => by rw [if_neg]; have := List.mem_range.1 hk; omega]
      simp; omega
    · rw [sum_one (by omega)]
      simp [Ne.symm hx]; omega
theorem puse_incr (sz : Int → Int) {p : List Int} {x : Int} (x0 : 0 ≤ x) (h : x.toNat < p.length) : puse sz (incr1 p x) = puse sz p + sz x := by
  unfold puse incr1
  rw [List.length_modify, ← sum_one (x := x.toNat) h]
  apply sum_map_congr
  intro k hk
  have hk := List.mem_range.1 hk
  rw [List.getD_eq_getElem?_getD, List.getD_eq_getElem?_getD, List.getElem?_modify]
  by_cases hx : x.toNat = k
  · have hx' : (k : Int) = x := by omega
    rw [if_pos hx.symm, List.getElem?_eq_getElem hk]
    simp [hx, Int.add_mul, hx']
  · rw [if_neg (Ne.symm hx)]; simp [hx]
theorem puse_zero (sz : Int → Int) (m : Int) : puse sz (lst m fun _ => 0) = 0 := by
  unfold puse
  rw [sum_map_congr (g := fun _ => 0) fun k hk => by
    rw [lst_len] at hk
    have hk := List.mem_range.1 hk
    rw [List.getD_eq_getElem?_getD, lst_get, if_pos (by omega)]; simp]
  induction (List.range (lst m fun _ => 0).length) with
  | nil => rfl
  | cons a l ih => rw [List.map_cons, List.sum_cons, ih]; rfl
structure FFOk (m room : Int) (sz : Int → Int) (hist : List Int) (s : Us) : Prop where
  ok : ∀ b ∈ s, b.1.length = m.toNat ∧ puse sz b.1 + b.2 = room ∧ 0 ≤ b.2
  pr : s.Pairwise fun a b => a.2 + b.2 < room
  mt : (s.map fun b => room - b.2).sum = (hist.map sz).sum
  ct : ∀ g : Int → Int, (s.map fun b => puse g b.1).sum = (hist.map g).sum
  ln : s.length ≤ hist.length
  nn : ∀ b ∈ s, ∀ v ∈ b.1, 0 ≤ v
theorem FFOk.nil (m room : Int) (sz : Int → Int) : FFOk m room sz [] [] := ⟨by simp, .nil, rfl, fun _ => rfl, by simp, by simp⟩
theorem incr1_nn {p : List Int} {x : Int} (h : ∀ v ∈ p, 0 ≤ v) : ∀ v ∈ incr1 p x, 0 ≤ v := by
  intro v hv
  unfold incr1 at hv
  obtain ⟨k, hk⟩ := List.mem_iff_getElem?.1 hv
  rw [List.getElem?_modify] at hk
  cases hp : p[k]? with
  | none => rw [hp] at hk; cases hk
  | some u =>
    rw [hp] at hk
    have h0 := h u (List.mem_of_getElem? hp)
    by_cases hx : x.toNat = k
    · simp [hx] at hk; omega
    · simp [hx] at hk; omega
theorem ffPut_mem {m room : Int} {sz : Int → Int} {x : Int} : ∀ {s : Us}, ∀ b ∈ ffPut m room sz x s, b ∈ s ∨ (∃ c ∈ s, sz x ≤ c.2 ∧ b = (incr1 c.1 x, c.2 - sz x)) ∨ (b = (incr1 (lst m fun _ => 0) x, room - sz x) ∧ ∀ c ∈ s, c.2 < sz x)
  | [], b, h => by simp [ffPut] at h; exact .inr (.inr ⟨h, by simp⟩)
  | c :: r, b, h => by
    rw [ffPut] at h
    split at h
    · rename_i hc
      rcases List.mem_cons.1 h with h | h
      · exact .inr (.inl ⟨c, by simp, hc, h⟩)
      · exact .inl (by simp [h])
    · rename_i hc
      rcases List.mem_cons.1 h with h | h
      · exact .inl (by simp [h])
      · rcases ffPut_mem b h with h | ⟨d, hd, e⟩ | ⟨e, hd⟩
        · exact .inl (by simp [h])
        · exact .inr (.inl ⟨d, by simp [hd], e⟩)
        · exact .inr (.inr ⟨e, fun d hd' => by
            rcases List.mem_cons.1 hd' with h | h
            · rw [h]; omega
            · exact hd d h⟩)
theorem ffPut_sum {m room : Int} {sz : Int → Int} {x : Int} (F : List Int × Int → Int) (y : Int) (h1 : ∀ c : List Int × Int, sz x ≤ c.2 → F (incr1 c.1 x, c.2 - sz x) = F c + y) (h2 : F (incr1 (lst m fun _ => 0) x, room - sz x) = y) : ∀ {s : Us}, ((ffPut m room sz x s).map F).sum = (s.map F).sum + y
  | [] => by simp [ffPut, h2]
  | c :: r => by
    rw [ffPut]
    split
    · rename_i hc
      simp only [List.map_cons, List.sum_cons, h1 c hc]; omega
    · simp only [List.map_cons, List.sum_cons, ffPut_sum F y h1 h2 (s := r)]; omega
theorem ffPut_pr {m room : Int} {sz : Int → Int} {x : Int} (hx : 0 ≤ sz x) : ∀ {s : Us}, s.Pairwise (fun a b => a.2 + b.2 < room) → (ffPut m room sz x s).Pairwise fun a b => a.2 + b.2 < room
  | [], _ => by simp [ffPut]
  | c :: r, h => by
    have h1 := List.pairwise_cons.1 h
    rw [ffPut]
    split
    · refine List.pairwise_cons.2 ⟨fun b hb => ?_, h1.2⟩
      have := h1.1 b hb
      dsimp only; omega
    · refine List.pairwise_cons.2 ⟨fun b hb => ?_, ffPut_pr hx h1.2⟩
      rcases ffPut_mem b hb with h | ⟨d, hd, _, e⟩ | ⟨e, hd⟩
      · exact h1.1 b h
      · rw [e]; have := h1.1 d hd; dsimp only; omega
      · rw [e]; dsimp only; omega
theorem ffPut_len {m room : Int} {sz : Int → Int} {x : Int} : ∀ {s : Us}, (ffPut m room sz x s).length ≤ s.length + 1
  | [] => by simp [ffPut]
  | c :: r => by
    rw [ffPut]
    split
    · simp
    · simp only [List.length_cons]; have := ffPut_len (m := m) (room := room) (sz := sz) (x := x) (s := r); omega
theorem ffPut_ok {m room : Int} {sz : Int → Int} {x : Int} {hist : List Int} {s : Us} (h : FFOk m room sz hist s) (x0 : 0 ≤ x) (x1 : x < m) (hx : 0 ≤ sz x) (hr : sz x ≤ room) : FFOk m room sz (hist ++ [x]) (ffPut m room sz x s) := by
  have hl : x.toNat < (lst m fun _ => (0 : Int)).length := by rw [lst_len]; omega
  refine ⟨fun b hb => ?_, ffPut_pr hx h.pr, ?_, fun g => ?_, ?_, fun b hb => ?_⟩
  · rcases ffPut_mem b hb with hb | ⟨c, hc, hs, e⟩ | ⟨e, _⟩
    · exact h.ok b hb
    · obtain ⟨h1, h2, h3⟩ := h.ok c hc
      rw [e]
      refine ⟨by simp [incr1, h1], ?_, by dsimp only; omega⟩
      rw [puse_incr sz x0 (by omega)]; dsimp only; omega
    · rw [e]
      refine ⟨by simp [incr1, lst_len], ?_, by dsimp only; omega⟩
      rw [puse_incr sz x0 hl, puse_zero]; dsimp only; omega
  · rw [ffPut_sum (fun b => room - b.2) (sz x) (fun c hc => by dsimp only; omega) (by dsimp only; omega), h.mt]; simp
  · have key : ∀ {s : Us}, (∀ b ∈ s, b.1.length = m.toNat) → ((ffPut m room sz x s).map fun b => puse g b.1).sum = (s.map fun b => puse g b.1).sum + g x := by
      intro s hs
      induction s with
      | nil => simp [ffPut, puse_incr g x0 hl, puse_zero]
      | cons c r ih =>
        rw [ffPut]
        split
        · simp only [List.map_cons, List.sum_cons]
          rw [puse_incr g x0 (by rw [hs c (by simp)]; omega)]; omega
        · simp only [List.map_cons, List.sum_cons, ih fun b hb => hs b (by simp [hb])]; omega
    rw [key fun b hb => (h.ok b hb).1, h.ct]; simp
  · have := ffPut_len (m := m) (room := room) (sz := sz) (x := x) (s := s); have := h.ln; simp; omega
  · rcases ffPut_mem b hb with hb | ⟨c, hc, hs, e⟩ | ⟨e, _⟩
    · exact h.nn b hb
    · rw [e]; exact incr1_nn (h.nn c hc)
    · rw [e]; exact incr1_nn fun v hv => by
        unfold lst at hv; simp at hv; omega
theorem ffRun_ok {m room : Int} {sz : Int → Int} : ∀ {l : List Int}, (∀ x ∈ l, 0 ≤ x ∧ x < m ∧ 0 ≤ sz x ∧ sz x ≤ room) → FFOk m room sz l (ffRun m room sz l) := by
  intro l
  have key : ∀ (l h : List Int) (s : Us), FFOk m room sz h s → (∀ x ∈ l, 0 ≤ x ∧ x < m ∧ 0 ≤ sz x ∧ sz x ≤ room) → FFOk m room sz (h ++ l) (l.foldl (fun s x => ffPut m room sz x s) s) := by
    intro l
    induction l with
    | nil => intro h s hs _; simpa using hs
    | cons x l ih =>
      intro h s hs hl
      obtain ⟨h1, h2, h3, h4⟩ := hl x (by simp)
      have := ih (h ++ [x]) _ (ffPut_ok hs h1 h2 h3 h4) fun y hy => hl y (by simp [hy])
      simpa using this
  intro hl
  have := key l [] [] (.nil _ _ _) hl
  simpa [ffRun] using this
theorem pcs_mem {d : Int → Int} : ∀ {n : Nat}, ∀ x ∈ pcs d n, 0 ≤ x ∧ x < n
  | 0, x, h => by simp [pcs] at h
  | n + 1, x, h => by
    rw [pcs] at h
    rcases List.mem_append.1 h with h | h
    · have := pcs_mem x h; omega
    · have := (List.mem_replicate.1 h).2; omega
def ones (s : Us) : Us := s.map fun b => (b.1, 1)
theorem wsum_ones (f : List Int → Int) : ∀ s : Us, wsum f (ones s) = (s.map fun b => f b.1).sum
  | [] => rfl
  | b :: r => by
    have := wsum_ones f r
    unfold ones at this ⊢
    simp only [List.map_cons, wsum, List.sum_cons, this]; omega
end Go.Proofs.Gw
