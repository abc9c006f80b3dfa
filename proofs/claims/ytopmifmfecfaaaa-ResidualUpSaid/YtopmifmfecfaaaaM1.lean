/- The walks of layer 28: Valid, Fits, Proper, plans. -/
import Derived.Test.YtopmifmfecfaaaaGv
import Derived.Test.YtopmifmfecfaaaaW36
import Derived.Test.YtopmifmfecfaaaaFs
import Derived.Test.YtopmifmfecfaaaaFd
namespace Go.Proofs.Ytopmifmfecfaaaa
open Go Go.RowKit Go.Proofs.Gw
set_option linter.unusedVariables false

theorem cl_10 : calledT Try.prog 10 = true := by kernel_rfl
theorem cl_110 : calledT Try.prog 110 = true := by kernel_rfl
theorem cl_31 : calledT Try.prog 31 = true := by kernel_rfl
theorem cl_34 : calledT Try.prog 34 = true := by kernel_rfl
theorem cl_46 : calledT Try.prog 46 = true := by kernel_rfl
theorem cl_67 : calledT Try.prog 67 = true := by kernel_rfl
theorem cl_70 : calledT Try.prog 70 = true := by kernel_rfl
theorem cl_87 : calledT Try.prog 87 = true := by kernel_rfl
theorem cl_89 : calledT Try.prog 89 = true := by kernel_rfl
theorem fd_24_0 : fieldT Try.prog 24 0 = some 0 := by kernel_rfl
theorem fd_24_1 : fieldT Try.prog 24 1 = some 1 := by kernel_rfl
theorem fd_24_2 : fieldT Try.prog 24 2 = some 2 := by kernel_rfl
theorem fd_24_3 : fieldT Try.prog 24 3 = some 3 := by kernel_rfl
theorem fd_34_0 : fieldT Try.prog 34 0 = some 0 := by kernel_rfl
theorem fd_34_1 : fieldT Try.prog 34 1 = some 1 := by kernel_rfl
theorem fd_39_0 : fieldT Try.prog 39 0 = some 0 := by kernel_rfl
theorem fd_39_1 : fieldT Try.prog 39 1 = some 1 := by kernel_rfl
theorem fd_39_2 : fieldT Try.prog 39 2 = some 2 := by kernel_rfl
theorem fd_39_3 : fieldT Try.prog 39 3 = some 3 := by kernel_rfl
theorem sl_25 : sliceT Try.prog 25 = some (34, 2) := by kernel_rfl
theorem st_24 : structT Try.prog 24 = some 4 := by kernel_rfl
theorem st_39 : structT Try.prog 39 = some 4 := by kernel_rfl
set_option maxRecDepth 20000 in
theorem c_pvalid {vL vD : Value} {p : Prob} (w0 : World) (h : PAt w0 vL vD p) :
    Calls Try.prog 34 [.agg #[vL, vD, .int .i64 p.stock, .int .i64 p.kerf]].toArray w0 fun e w => ∃ v, e = .returned v ∧ v = B p.Ok ∧ Sat w0 w [] := by
  have hm := h.L.slh.n0; have hm1 := h.L.slh.n1; have hd := h.D.slh.n0; have hs := h.is; have hk := h.ik
  refine zenG Try.func34 Try.ntmps34 fun w hS => ?_
  refine zsr ?_
  refine zla (xbx (cs := [_, _, _, _]) hS) ?_; rintro _ w ⟨g1, rfl, hS⟩
  replace hS := hS.n1
  refine zlv xas ?_
  refine zlt <| zsq <| zsr ?_
  refine zlv (xfb 0 fd_39_0) ?_
  refine zlv (xlb 0 pl_22 hS) ?_
  refine zlv (xln sl_22 h.L.slh) ?_
  refine zs2 ?_
  refine zlb 9 ?_ ?_ <;> intro hc
  ·
   iterate 4 refine zlo ?_
   refine zs2 ?_
   iterate 7 refine zlo ?_
   refine zs2 ?_
   iterate 3 refine zlo ?_
   refine zs2 ?_
   iterate 3 refine zlo ?_
   refine zs2 ?_
   iterate 3 refine zlo ?_
   refine zs2 ?_
   iterate 3 refine zlo ?_
   refine zlv xpt ?_
   refine zlt <| zct <| zsr ?_
   refine zlv xas ?_
   refine zlt <| zrt <| ztr <| zf1 ⟨_, rfl, ?_⟩
   first
   | exact ⟨false_B (by intro hk; have h1 := hk.m1; have h2 := hk.m2; have h3 := hk.d; have h4 := hk.s1; have h5 := hk.s2; have h6 := hk.k1; have h7 := hk.k2; omega), hS.nl⟩
   | exact ⟨false_B (by intro hk; have := hk.all i (by omega) (by omega); unfold Prob.each at this; omega), hS.nl⟩
  refine zlv (xfb 0 fd_39_0) ?_
  refine zlv (xlb 0 pl_22 hS) ?_
  refine zlv (xln sl_22 h.L.slh) ?_
  refine zs3 ?_
  refine zlb 15 ?_ ?_ <;> intro hc
  ·
   iterate 7 refine zlo ?_
   refine zs2 ?_
   iterate 3 refine zlo ?_
   refine zs2 ?_
   iterate 3 refine zlo ?_
   refine zs2 ?_
   iterate 3 refine zlo ?_
   refine zs2 ?_
   iterate 3 refine zlo ?_
   refine zlv xpt ?_
   refine zlt <| zct <| zsr ?_
   refine zlv xas ?_
   refine zlt <| zrt <| ztr <| zf1 ⟨_, rfl, ?_⟩
   first
   | exact ⟨false_B (by intro hk; have h1 := hk.m1; have h2 := hk.m2; have h3 := hk.d; have h4 := hk.s1; have h5 := hk.s2; have h6 := hk.k1; have h7 := hk.k2; omega), hS.nl⟩
   | exact ⟨false_B (by intro hk; have := hk.all i (by omega) (by omega); unfold Prob.each at this; omega), hS.nl⟩
  refine zlv (xfb 1 fd_39_1) ?_
  refine zlv (xlb 0 pl_22 hS) ?_
  refine zlv (xln sl_22 h.D.slh) ?_
  refine zlv (xfb 0 fd_39_0) ?_
  refine zlv (xlb 0 pl_22 hS) ?_
  refine zlv (xln sl_22 h.L.slh) ?_
  refine zs3 ?_
  refine zlb 24 ?_ ?_ <;> intro hc
  ·
   iterate 3 refine zlo ?_
   refine zs2 ?_
   iterate 3 refine zlo ?_
   refine zs2 ?_
   iterate 3 refine zlo ?_
   refine zs2 ?_
   iterate 3 refine zlo ?_
   refine zlv xpt ?_
   refine zlt <| zct <| zsr ?_
   refine zlv xas ?_
   refine zlt <| zrt <| ztr <| zf1 ⟨_, rfl, ?_⟩
   first
   | exact ⟨false_B (by intro hk; have h1 := hk.m1; have h2 := hk.m2; have h3 := hk.d; have h4 := hk.s1; have h5 := hk.s2; have h6 := hk.k1; have h7 := hk.k2; omega), hS.nl⟩
   | exact ⟨false_B (by intro hk; have := hk.all i (by omega) (by omega); unfold Prob.each at this; omega), hS.nl⟩
  refine zlv (xfb 2 fd_39_2) ?_
  refine zlv (xlb 0 pl_3 hS) ?_
  refine zs3 ?_
  refine zlb 29 ?_ ?_ <;> intro hc
  ·
   iterate 3 refine zlo ?_
   refine zs2 ?_
   iterate 3 refine zlo ?_
   refine zs2 ?_
   iterate 3 refine zlo ?_
   refine zlv xpt ?_
   refine zlt <| zct <| zsr ?_
   refine zlv xas ?_
   refine zlt <| zrt <| ztr <| zf1 ⟨_, rfl, ?_⟩
   first
   | exact ⟨false_B (by intro hk; have h1 := hk.m1; have h2 := hk.m2; have h3 := hk.d; have h4 := hk.s1; have h5 := hk.s2; have h6 := hk.k1; have h7 := hk.k2; omega), hS.nl⟩
   | exact ⟨false_B (by intro hk; have := hk.all i (by omega) (by omega); unfold Prob.each at this; omega), hS.nl⟩
  refine zlv (xfb 2 fd_39_2) ?_
  refine zlv (xlb 0 pl_3 hS) ?_
  refine zs3 ?_
  refine zlb 34 ?_ ?_ <;> intro hc
  ·
   iterate 3 refine zlo ?_
   refine zs2 ?_
   iterate 3 refine zlo ?_
   refine zlv xpt ?_
   refine zlt <| zct <| zsr ?_
   refine zlv xas ?_
   refine zlt <| zrt <| ztr <| zf1 ⟨_, rfl, ?_⟩
   first
   | exact ⟨false_B (by intro hk; have h1 := hk.m1; have h2 := hk.m2; have h3 := hk.d; have h4 := hk.s1; have h5 := hk.s2; have h6 := hk.k1; have h7 := hk.k2; omega), hS.nl⟩
   | exact ⟨false_B (by intro hk; have := hk.all i (by omega) (by omega); unfold Prob.each at this; omega), hS.nl⟩
  refine zlv (xfb 3 fd_39_3) ?_
  refine zlv (xlb 0 pl_3 hS) ?_
  refine zs3 ?_
  refine zlb 39 ?_ ?_ <;> intro hc
  ·
   iterate 3 refine zlo ?_
   refine zlv xpt ?_
   refine zlt <| zct <| zsr ?_
   refine zlv xas ?_
   refine zlt <| zrt <| ztr <| zf1 ⟨_, rfl, ?_⟩
   first
   | exact ⟨false_B (by intro hk; have h1 := hk.m1; have h2 := hk.m2; have h3 := hk.d; have h4 := hk.s1; have h5 := hk.s2; have h6 := hk.k1; have h7 := hk.k2; omega), hS.nl⟩
   | exact ⟨false_B (by intro hk; have := hk.all i (by omega) (by omega); unfold Prob.each at this; omega), hS.nl⟩
  refine zlv (xfb 3 fd_39_3) ?_
  refine zlv (xlb 0 pl_3 hS) ?_
  refine zs2 ?_
  refine zlt ?_
  refine zcif ?_ ?_ <;> intro hc
  ·
   refine zsr ?_
   refine zlv xas ?_
   refine zlt <| zrt <| ztr <| zf1 ⟨_, rfl, ?_⟩
   first
   | exact ⟨false_B (by intro hk; have h1 := hk.m1; have h2 := hk.m2; have h3 := hk.d; have h4 := hk.s1; have h5 := hk.s2; have h6 := hk.k1; have h7 := hk.k2; omega), hS.nl⟩
   | exact ⟨false_B (by intro hk; have := hk.all i (by omega) (by omega); unfold Prob.each at this; omega), hS.nl⟩
  refine zsk <| ztn <| zsq <| zsr ?_
  refine zlv (xfb 0 fd_39_0) ?_
  refine zlv (xlb 0 pl_22 hS) ?_
  refine zlv (xln sl_22 h.L.slh) ?_
  refine zlv xmv ?_
  refine zlt <| zbk <| zlp (fun mm M w => ∃ (i : Int), mm = ((p.m - i).toNat) ∧ (0 ≤ i) ∧ (i ≤ p.m) ∧ (∀ k, 0 ≤ k → k < i → p.each k) ∧ M = [(1, .pointer (some ⟨g1, 0, none⟩)), (45, vL), (46, .int .i64 p.m), (47, .int .i64 i)] ∧ Sat w0 w [.blk g1 [vL, vD, .int .i64 p.stock, .int .i64 p.kerf]]) ⟨0, rfl, (by omega), (by omega), ?_, rfl, hS⟩ ?_
  ·
   intro k h0 h1; omega
  clear hS w
  rintro mm M w ⟨i, rfl, h0, h1, hall, rfl, hS⟩
  refine zsr ?_
  refine zlv xlss ?_
  refine zlt <| zsq ?_
  refine zcif ?_ ?_ <;> intro hc
  ·
   refine zsk <| ztn <| zsq <| zbk <| zsr ?_
   refine zlv xmv ?_
   refine zlv (xix (kk := i) sl_22 h.L.slh) ?_
   refine zlv (xlr (u := .int .i64 (p.L i)) pl_3 (h.L.below hS.below)) ?_
   have hbv := h.iL i
   refine zs2 ?_
   refine zlz ?_
   refine zs3 ?_
   refine zlb 54 ?_ ?_ <;> intro hc
   ·
    iterate 4 refine zlo ?_
    refine zs2 ?_
    iterate 12 refine zlo ?_
    refine zs2 ?_
    iterate 6 refine zlo ?_
    refine zs2 ?_
    iterate 6 refine zlo ?_
    refine zlv xpt ?_
    refine zlt <| zct <| zsr ?_
    refine zlv xas ?_
    refine zlt <| zrt <| zbr <| ztr <| ztr <| zbr <| ztr <| zf1 ⟨_, rfl, ?_⟩
    first
    | exact ⟨false_B (by intro hk; have h1 := hk.m1; have h2 := hk.m2; have h3 := hk.d; have h4 := hk.s1; have h5 := hk.s2; have h6 := hk.k1; have h7 := hk.k2; omega), hS.nl⟩
    | exact ⟨false_B (by intro hk; have := hk.all i (by omega) (by omega); unfold Prob.each at this; omega), hS.nl⟩
   refine zlv xmv ?_
   refine zlv (xfb 2 fd_39_2) ?_
   refine zlv (xlb 0 pl_3 hS) ?_
   refine zs3 ?_
   refine zlb 60 ?_ ?_ <;> intro hc
   ·
    iterate 12 refine zlo ?_
    refine zs2 ?_
    iterate 6 refine zlo ?_
    refine zs2 ?_
    iterate 6 refine zlo ?_
    refine zlv xpt ?_
    refine zlt <| zct <| zsr ?_
    refine zlv xas ?_
    refine zlt <| zrt <| zbr <| ztr <| ztr <| zbr <| ztr <| zf1 ⟨_, rfl, ?_⟩
    first
    | exact ⟨false_B (by intro hk; have h1 := hk.m1; have h2 := hk.m2; have h3 := hk.d; have h4 := hk.s1; have h5 := hk.s2; have h6 := hk.k1; have h7 := hk.k2; omega), hS.nl⟩
    | exact ⟨false_B (by intro hk; have := hk.all i (by omega) (by omega); unfold Prob.each at this; omega), hS.nl⟩
   refine zs3 ?_
   refine zlb 63 ?_ ?_ <;> intro hc
   ·
    refine zlv xmv ?_
    refine zlv (xfb 0 fd_39_0) ?_
    refine zlv (xlb 0 pl_22 hS) ?_
    refine zlv xmv ?_
    refine zlv (xsub (r := i - 1)) ?_
    refine zlv (xix (kk := i - 1) sl_22 h.L.slh) ?_
    refine zlv (xlr (u := .int .i64 (p.L (i - 1))) pl_3 (h.L.below hS.below)) ?_
    have hbv := h.iL (i - 1)
    refine zs4 ?_
    refine zlb 74 ?_ ?_ <;> intro hc
    ·
     iterate 6 refine zlo ?_
     refine zs2 ?_
     iterate 6 refine zlo ?_
     refine zlv xpt ?_
     refine zlt <| zct <| zsr ?_
     refine zlv xas ?_
     refine zlt <| zrt <| zbr <| ztr <| ztr <| zbr <| ztr <| zf1 ⟨_, rfl, ?_⟩
     first
     | exact ⟨false_B (by intro hk; have h1 := hk.m1; have h2 := hk.m2; have h3 := hk.d; have h4 := hk.s1; have h5 := hk.s2; have h6 := hk.k1; have h7 := hk.k2; omega), hS.nl⟩
     | exact ⟨false_B (by intro hk; have := hk.all i (by omega) (by omega); unfold Prob.each at this; omega), hS.nl⟩
    refine zlv (xfb 1 fd_39_1) ?_
    refine zlv (xlb 0 pl_22 hS) ?_
    refine zlv xmv ?_
    refine zlv (xix (kk := i) sl_22 h.D.slh) ?_
    refine zlv (xlr (u := .int .i64 (p.D i)) pl_3 (h.D.below hS.below)) ?_
    have hbv := h.iD i
    refine zs3 ?_
    refine zlb 82 ?_ ?_ <;> intro hc
    ·
     iterate 6 refine zlo ?_
     refine zlv xpt ?_
     refine zlt <| zct <| zsr ?_
     refine zlv xas ?_
     refine zlt <| zrt <| zbr <| ztr <| ztr <| zbr <| ztr <| zf1 ⟨_, rfl, ?_⟩
     first
     | exact ⟨false_B (by intro hk; have h1 := hk.m1; have h2 := hk.m2; have h3 := hk.d; have h4 := hk.s1; have h5 := hk.s2; have h6 := hk.k1; have h7 := hk.k2; omega), hS.nl⟩
     | exact ⟨false_B (by intro hk; have := hk.all i (by omega) (by omega); unfold Prob.each at this; omega), hS.nl⟩
    refine zlv (xfb 1 fd_39_1) ?_
    refine zlv (xlb 0 pl_22 hS) ?_
    refine zlv xmv ?_
    refine zlv (xix (kk := i) sl_22 h.D.slh) ?_
    refine zlv (xlr (u := .int .i64 (p.D i)) pl_3 (h.D.below hS.below)) ?_
    have hbv := h.iD i
    refine zs2 ?_
    refine zlt ?_
    refine zcif ?_ ?_ <;> intro hc
    ·
     refine zsr ?_
     refine zlv xas ?_
     refine zlt <| zrt <| zbr <| ztr <| ztr <| zbr <| ztr <| zf1 ⟨_, rfl, ?_⟩
     first
     | exact ⟨false_B (by intro hk; have h1 := hk.m1; have h2 := hk.m2; have h3 := hk.d; have h4 := hk.s1; have h5 := hk.s2; have h6 := hk.k1; have h7 := hk.k2; omega), hS.nl⟩
     | exact ⟨false_B (by intro hk; have := hk.all i (by omega) (by omega); unfold Prob.each at this; omega), hS.nl⟩
    refine zsk <| zbn <| ztn <| zrg ?_
    refine zlv (xadd (r := i + 1)) ?_
    refine zlv xmv ?_
    refine zln <| zlq ⟨i + 1, rfl, (by omega), (by omega), ?_, rfl, hS⟩
    ·
     intro k h0' h1'; rcases Int.lt_or_eq_of_le (show k ≤ i by omega) with hk | hk; exact hall k h0' hk; rw [hk]; unfold Prob.each; omega
   iterate 8 refine zlo ?_
   refine zs3 ?_
   refine zlv (xfb 1 fd_39_1) ?_
   refine zlv (xlb 0 pl_22 hS) ?_
   refine zlv xmv ?_
   refine zlv (xix (kk := i) sl_22 h.D.slh) ?_
   refine zlv (xlr (u := .int .i64 (p.D i)) pl_3 (h.D.below hS.below)) ?_
   have hbv := h.iD i
   refine zs3 ?_
   refine zlb 82 ?_ ?_ <;> intro hc
   ·
    iterate 6 refine zlo ?_
    refine zlv xpt ?_
    refine zlt <| zct <| zsr ?_
    refine zlv xas ?_
    refine zlt <| zrt <| zbr <| ztr <| ztr <| zbr <| ztr <| zf1 ⟨_, rfl, ?_⟩
    first
    | exact ⟨false_B (by intro hk; have h1 := hk.m1; have h2 := hk.m2; have h3 := hk.d; have h4 := hk.s1; have h5 := hk.s2; have h6 := hk.k1; have h7 := hk.k2; omega), hS.nl⟩
    | exact ⟨false_B (by intro hk; have := hk.all i (by omega) (by omega); unfold Prob.each at this; omega), hS.nl⟩
   refine zlv (xfb 1 fd_39_1) ?_
   refine zlv (xlb 0 pl_22 hS) ?_
   refine zlv xmv ?_
   refine zlv (xix (kk := i) sl_22 h.D.slh) ?_
   refine zlv (xlr (u := .int .i64 (p.D i)) pl_3 (h.D.below hS.below)) ?_
   have hbv := h.iD i
   refine zs2 ?_
   refine zlt ?_
   refine zcif ?_ ?_ <;> intro hc
   ·
    refine zsr ?_
    refine zlv xas ?_
    refine zlt <| zrt <| zbr <| ztr <| ztr <| zbr <| ztr <| zf1 ⟨_, rfl, ?_⟩
    first
    | exact ⟨false_B (by intro hk; have h1 := hk.m1; have h2 := hk.m2; have h3 := hk.d; have h4 := hk.s1; have h5 := hk.s2; have h6 := hk.k1; have h7 := hk.k2; omega), hS.nl⟩
    | exact ⟨false_B (by intro hk; have := hk.all i (by omega) (by omega); unfold Prob.each at this; omega), hS.nl⟩
   refine zsk <| zbn <| ztn <| zrg ?_
   refine zlv (xadd (r := i + 1)) ?_
   refine zlv xmv ?_
   refine zln <| zlq ⟨i + 1, rfl, (by omega), (by omega), ?_, rfl, hS⟩
   ·
    intro k h0' h1'; rcases Int.lt_or_eq_of_le (show k ≤ i by omega) with hk | hk; exact hall k h0' hk; rw [hk]; unfold Prob.each; omega
  refine zxt <| ztx <| ztx <| zbh <| ztn <| zsr ?_
  refine zlv xas ?_
  refine zlt <| zrt <| zf1 ⟨_, rfl, ?_⟩
  exact ⟨true_B ⟨by omega, by omega, by omega, by omega, by omega, by omega, by omega, fun k h0 h1 => hall k h0 (by omega)⟩, hS.nl⟩

set_option maxRecDepth 20000 in
theorem c_rvalid28 {vL vD : Value} {p : Prob} (w0 : World) (h : PAt w0 vL vD p) :
    Calls Try.prog 10 [.agg #[vL, vD, .int .i64 p.stock, .int .i64 p.kerf]].toArray w0 fun e w => ∃ v, e = .returned v ∧ v = B p.Ok ∧ Sat w0 w [] := by
  have hm := h.L.slh.n0; have hm1 := h.L.slh.n1; have hd := h.D.slh.n0; have hs := h.is; have hk := h.ik
  refine zenG Try.func10 Try.ntmps10 fun w hS => ?_
  refine zsr ?_
  refine zla (xbx (cs := [_, _, _, _]) hS) ?_; rintro _ w ⟨g1, rfl, hS⟩
  replace hS := hS.n1
  refine zlv xas ?_
  refine zlz ?_
  refine zlv (xfb 0 fd_24_0) ?_
  refine zlv (xlb 0 pl_22 hS) ?_
  refine zlv (xln sl_22 h.L.slh) ?_
  refine zlv xas ?_
  refine zlt <| zsq <| zsr ?_
  refine zs3 ?_
  refine zlb 10 ?_ ?_ <;> intro hc
  ·
   iterate 2 refine zlo ?_
   refine zs2 ?_
   iterate 5 refine zlo ?_
   refine zs2 ?_
   iterate 3 refine zlo ?_
   refine zs2 ?_
   iterate 3 refine zlo ?_
   refine zs2 ?_
   iterate 3 refine zlo ?_
   refine zs2 ?_
   iterate 3 refine zlo ?_
   refine zlv xpt ?_
   refine zlt <| zct <| zsr ?_
   refine zlv xas ?_
   refine zlt <| zrt <| ztr <| zf1 ⟨_, rfl, ?_⟩
   first
   | exact ⟨false_B (by intro hk; have h1 := hk.m1; have h2 := hk.m2; have h3 := hk.d; have h4 := hk.s1; have h5 := hk.s2; have h6 := hk.k1; have h7 := hk.k2; omega), hS.nl⟩
   | exact ⟨false_B (by intro hk; have := hk.all i (by omega) (by omega); unfold Prob.each at this; omega), hS.nl⟩
  refine zs4 ?_
  refine zlb 14 ?_ ?_ <;> intro hc
  ·
   iterate 5 refine zlo ?_
   refine zs2 ?_
   iterate 3 refine zlo ?_
   refine zs2 ?_
   iterate 3 refine zlo ?_
   refine zs2 ?_
   iterate 3 refine zlo ?_
   refine zs2 ?_
   iterate 3 refine zlo ?_
   refine zlv xpt ?_
   refine zlt <| zct <| zsr ?_
   refine zlv xas ?_
   refine zlt <| zrt <| ztr <| zf1 ⟨_, rfl, ?_⟩
   first
   | exact ⟨false_B (by intro hk; have h1 := hk.m1; have h2 := hk.m2; have h3 := hk.d; have h4 := hk.s1; have h5 := hk.s2; have h6 := hk.k1; have h7 := hk.k2; omega), hS.nl⟩
   | exact ⟨false_B (by intro hk; have := hk.all i (by omega) (by omega); unfold Prob.each at this; omega), hS.nl⟩
  refine zlv (xfb 1 fd_24_1) ?_
  refine zlv (xlb 0 pl_22 hS) ?_
  refine zlv (xln sl_22 h.D.slh) ?_
  refine zs4 ?_
  refine zlb 21 ?_ ?_ <;> intro hc
  ·
   iterate 3 refine zlo ?_
   refine zs2 ?_
   iterate 3 refine zlo ?_
   refine zs2 ?_
   iterate 3 refine zlo ?_
   refine zs2 ?_
   iterate 3 refine zlo ?_
   refine zlv xpt ?_
   refine zlt <| zct <| zsr ?_
   refine zlv xas ?_
   refine zlt <| zrt <| ztr <| zf1 ⟨_, rfl, ?_⟩
   first
   | exact ⟨false_B (by intro hk; have h1 := hk.m1; have h2 := hk.m2; have h3 := hk.d; have h4 := hk.s1; have h5 := hk.s2; have h6 := hk.k1; have h7 := hk.k2; omega), hS.nl⟩
   | exact ⟨false_B (by intro hk; have := hk.all i (by omega) (by omega); unfold Prob.each at this; omega), hS.nl⟩
  refine zlv (xfb 2 fd_24_2) ?_
  refine zlv (xlb 0 pl_3 hS) ?_
  refine zs3 ?_
  refine zlb 26 ?_ ?_ <;> intro hc
  ·
   iterate 3 refine zlo ?_
   refine zs2 ?_
   iterate 3 refine zlo ?_
   refine zs2 ?_
   iterate 3 refine zlo ?_
   refine zlv xpt ?_
   refine zlt <| zct <| zsr ?_
   refine zlv xas ?_
   refine zlt <| zrt <| ztr <| zf1 ⟨_, rfl, ?_⟩
   first
   | exact ⟨false_B (by intro hk; have h1 := hk.m1; have h2 := hk.m2; have h3 := hk.d; have h4 := hk.s1; have h5 := hk.s2; have h6 := hk.k1; have h7 := hk.k2; omega), hS.nl⟩
   | exact ⟨false_B (by intro hk; have := hk.all i (by omega) (by omega); unfold Prob.each at this; omega), hS.nl⟩
  refine zlv (xfb 2 fd_24_2) ?_
  refine zlv (xlb 0 pl_3 hS) ?_
  refine zs3 ?_
  refine zlb 31 ?_ ?_ <;> intro hc
  ·
   iterate 3 refine zlo ?_
   refine zs2 ?_
   iterate 3 refine zlo ?_
   refine zlv xpt ?_
   refine zlt <| zct <| zsr ?_
   refine zlv xas ?_
   refine zlt <| zrt <| ztr <| zf1 ⟨_, rfl, ?_⟩
   first
   | exact ⟨false_B (by intro hk; have h1 := hk.m1; have h2 := hk.m2; have h3 := hk.d; have h4 := hk.s1; have h5 := hk.s2; have h6 := hk.k1; have h7 := hk.k2; omega), hS.nl⟩
   | exact ⟨false_B (by intro hk; have := hk.all i (by omega) (by omega); unfold Prob.each at this; omega), hS.nl⟩
  refine zlv (xfb 3 fd_24_3) ?_
  refine zlv (xlb 0 pl_3 hS) ?_
  refine zs3 ?_
  refine zlb 36 ?_ ?_ <;> intro hc
  ·
   iterate 3 refine zlo ?_
   refine zlv xpt ?_
   refine zlt <| zct <| zsr ?_
   refine zlv xas ?_
   refine zlt <| zrt <| ztr <| zf1 ⟨_, rfl, ?_⟩
   first
   | exact ⟨false_B (by intro hk; have h1 := hk.m1; have h2 := hk.m2; have h3 := hk.d; have h4 := hk.s1; have h5 := hk.s2; have h6 := hk.k1; have h7 := hk.k2; omega), hS.nl⟩
   | exact ⟨false_B (by intro hk; have := hk.all i (by omega) (by omega); unfold Prob.each at this; omega), hS.nl⟩
  refine zlv (xfb 3 fd_24_3) ?_
  refine zlv (xlb 0 pl_3 hS) ?_
  refine zs2 ?_
  refine zlt ?_
  refine zcif ?_ ?_ <;> intro hc
  ·
   refine zsr ?_
   refine zlv xas ?_
   refine zlt <| zrt <| ztr <| zf1 ⟨_, rfl, ?_⟩
   first
   | exact ⟨false_B (by intro hk; have h1 := hk.m1; have h2 := hk.m2; have h3 := hk.d; have h4 := hk.s1; have h5 := hk.s2; have h6 := hk.k1; have h7 := hk.k2; omega), hS.nl⟩
   | exact ⟨false_B (by intro hk; have := hk.all i (by omega) (by omega); unfold Prob.each at this; omega), hS.nl⟩
  refine zsk <| ztn <| zsq <| zsr ?_
  refine zlv xas ?_
  refine zlt <| zbk <| zlp (fun mm M w => ∃ (i : Int), mm = ((p.m - i).toNat) ∧ (0 ≤ i) ∧ (i ≤ p.m) ∧ (∀ k, 0 ≤ k → k < i → p.each k) ∧ M = [(1, .pointer (some ⟨g1, 0, none⟩)), (3, .int .i64 p.m), (4, .int .i64 i)] ∧ Sat w0 w [.blk g1 [vL, vD, .int .i64 p.stock, .int .i64 p.kerf]]) ⟨0, rfl, (by omega), (by omega), ?_, rfl, hS⟩ ?_
  ·
   intro k h0 h1; omega
  clear hS w
  rintro mm M w ⟨i, rfl, h0, h1, hall, rfl, hS⟩
  refine zsq <| zsr ?_
  refine zs3 ?_
  refine zlt ?_
  refine zcif ?_ ?_ <;> intro hc
  ·
   refine zsk <| ztn <| zsq <| zbk <| zsq ?_
   refine zdst [0] [0] 1000 mx_ hS ?_; clear hS; intro w hS
   refine zdv 0 (fun _ => (xfb 0 fd_24_0)) ?_
   refine zdla 1 (fun w hS => (xlb 0 pl_22 hS)) ?_
   refine zdv 2 (fun _ => xmv) ?_
   refine zdv 3 (fun _ => (xix (kk := i) sl_22 h.L.slh)) ?_
   refine zdla 4 (fun w hS => (xlr (u := .int .i64 (p.L i)) pl_3 (h.L.below hS.below))) ?_
   have hbv := h.iL i
   refine zdv 5 (fun _ => xlss) ?_
   refine zdv 6 (fun _ => xmv) ?_
   refine zdb 52 ?_ ?_ <;> intro hc
   ·
    refine zdof 7 ?_
    refine zdof 8 ?_
    refine zdof 9 ?_
    refine zdof 10 ?_
    refine zdof 11 ?_
    refine zdof 12 ?_
    refine zdof 13 ?_
    refine zdof 14 ?_
    refine zdv 15 (fun _ => xpt) ?_
    refine zdv 16 (fun _ => xmv) ?_
    refine zdof 17 ?_
    refine zdof 18 ?_
    refine zdof 19 ?_
    refine zdof 20 ?_
    refine zdof 21 ?_
    refine zdof 22 ?_
    refine zdof 23 ?_
    refine zdof 24 ?_
    refine zdof 25 ?_
    refine zdof 26 ?_
    refine zdof 27 ?_
    refine zdof 28 ?_
    refine zdof 29 ?_
    refine zdof 30 ?_
    refine zdof 31 ?_
    refine zdof 32 ?_
    refine zdv 33 (fun _ => xpt) ?_
    refine zdv 34 (fun _ => xmv) ?_
    refine zdof 35 ?_
    refine zdof 36 ?_
    refine zdof 37 ?_
    refine zdof 38 ?_
    refine zdof 39 ?_
    refine zdof 40 ?_
    refine zdv 41 (fun _ => xpt) ?_
    refine zdv 42 (fun _ => xmv) ?_
    refine zdof 43 ?_
    refine zdof 44 ?_
    refine zdof 45 ?_
    refine zdof 46 ?_
    refine zdof 47 ?_
    refine zdof 48 ?_
    refine zdv 49 (fun _ => xpt) ?_
    refine zdd <| ztn <| zct <| zsr ?_
    refine zlv xas ?_
    refine zlt <| zrt <| zbr <| ztr <| ztr <| zbr <| ztr <| zf1 ⟨_, rfl, ?_⟩
    first
    | exact ⟨false_B (by intro hk; have h1 := hk.m1; have h2 := hk.m2; have h3 := hk.d; have h4 := hk.s1; have h5 := hk.s2; have h6 := hk.k1; have h7 := hk.k2; omega), hS.nl⟩
    | exact ⟨false_B (by intro hk; have := hk.all i (by omega) (by omega); unfold Prob.each at this; omega), hS.nl⟩
   refine zdv 7 (fun _ => (xfb 0 fd_24_0)) ?_
   refine zdla 8 (fun w hS => (xlb 0 pl_22 hS)) ?_
   refine zdv 9 (fun _ => xmv) ?_
   refine zdv 10 (fun _ => (xix (kk := i) sl_22 h.L.slh)) ?_
   refine zdla 11 (fun w hS => (xlr (u := .int .i64 (p.L i)) pl_3 (h.L.below hS.below))) ?_
   have hbv := h.iL i
   refine zdv 12 (fun _ => (xfb 2 fd_24_2)) ?_
   refine zdla 13 (fun w hS => (xlb 0 pl_3 hS)) ?_
   refine zdv 14 (fun _ => xgtr) ?_
   refine zdv 15 (fun _ => xpf) ?_
   refine zdv 16 (fun _ => xmv) ?_
   refine zdb 62 ?_ ?_ <;> intro hc
   ·
    refine zdof 17 ?_
    refine zdof 18 ?_
    refine zdof 19 ?_
    refine zdof 20 ?_
    refine zdof 21 ?_
    refine zdof 22 ?_
    refine zdof 23 ?_
    refine zdof 24 ?_
    refine zdof 25 ?_
    refine zdof 26 ?_
    refine zdof 27 ?_
    refine zdof 28 ?_
    refine zdof 29 ?_
    refine zdof 30 ?_
    refine zdof 31 ?_
    refine zdof 32 ?_
    refine zdv 33 (fun _ => xpt) ?_
    refine zdv 34 (fun _ => xmv) ?_
    refine zdof 35 ?_
    refine zdof 36 ?_
    refine zdof 37 ?_
    refine zdof 38 ?_
    refine zdof 39 ?_
    refine zdof 40 ?_
    refine zdv 41 (fun _ => xpt) ?_
    refine zdv 42 (fun _ => xmv) ?_
    refine zdof 43 ?_
    refine zdof 44 ?_
    refine zdof 45 ?_
    refine zdof 46 ?_
    refine zdof 47 ?_
    refine zdof 48 ?_
    refine zdv 49 (fun _ => xpt) ?_
    refine zdd <| ztn <| zct <| zsr ?_
    refine zlv xas ?_
    refine zlt <| zrt <| zbr <| ztr <| ztr <| zbr <| ztr <| zf1 ⟨_, rfl, ?_⟩
    first
    | exact ⟨false_B (by intro hk; have h1 := hk.m1; have h2 := hk.m2; have h3 := hk.d; have h4 := hk.s1; have h5 := hk.s2; have h6 := hk.k1; have h7 := hk.k2; omega), hS.nl⟩
    | exact ⟨false_B (by intro hk; have := hk.all i (by omega) (by omega); unfold Prob.each at this; omega), hS.nl⟩
   refine zdv 17 (fun _ => xmv) ?_
   refine zdv 18 (fun _ => xgtr) ?_
   refine zdv 19 (fun _ => xmv) ?_
   refine zdb 65 ?_ ?_ <;> intro hc
   ·
    refine zdv 20 (fun _ => (xfb 0 fd_24_0)) ?_
    refine zdla 21 (fun w hS => (xlb 0 pl_22 hS)) ?_
    refine zdv 22 (fun _ => xmv) ?_
    refine zdv 23 (fun _ => (xix (kk := i) sl_22 h.L.slh)) ?_
    refine zdla 24 (fun w hS => (xlr (u := .int .i64 (p.L i)) pl_3 (h.L.below hS.below))) ?_
    have hbv := h.iL i
    refine zdv 25 (fun _ => (xfb 0 fd_24_0)) ?_
    refine zdla 26 (fun w hS => (xlb 0 pl_22 hS)) ?_
    refine zdv 27 (fun _ => xmv) ?_
    refine zdv 28 (fun _ => (xsub (r := i - 1))) ?_
    refine zdv 29 (fun _ => (xix (kk := i - 1) sl_22 h.L.slh)) ?_
    refine zdla 30 (fun w hS => (xlr (u := .int .i64 (p.L (i - 1))) pl_3 (h.L.below hS.below))) ?_
    have hbv := h.iL (i - 1)
    refine zdv 31 (fun _ => xgeq) ?_
    refine zdv 32 (fun _ => xpt) ?_
    refine zdv 33 (fun _ => xpf) ?_
    refine zdv 34 (fun _ => xmv) ?_
    refine zdb 80 ?_ ?_ <;> intro hc
    ·
     refine zdof 35 ?_
     refine zdof 36 ?_
     refine zdof 37 ?_
     refine zdof 38 ?_
     refine zdof 39 ?_
     refine zdof 40 ?_
     refine zdv 41 (fun _ => xpt) ?_
     refine zdv 42 (fun _ => xmv) ?_
     refine zdof 43 ?_
     refine zdof 44 ?_
     refine zdof 45 ?_
     refine zdof 46 ?_
     refine zdof 47 ?_
     refine zdof 48 ?_
     refine zdv 49 (fun _ => xpt) ?_
     refine zdd <| ztn <| zct <| zsr ?_
     refine zlv xas ?_
     refine zlt <| zrt <| zbr <| ztr <| ztr <| zbr <| ztr <| zf1 ⟨_, rfl, ?_⟩
     first
     | exact ⟨false_B (by intro hk; have h1 := hk.m1; have h2 := hk.m2; have h3 := hk.d; have h4 := hk.s1; have h5 := hk.s2; have h6 := hk.k1; have h7 := hk.k2; omega), hS.nl⟩
     | exact ⟨false_B (by intro hk; have := hk.all i (by omega) (by omega); unfold Prob.each at this; omega), hS.nl⟩
    refine zdv 35 (fun _ => (xfb 1 fd_24_1)) ?_
    refine zdla 36 (fun w hS => (xlb 0 pl_22 hS)) ?_
    refine zdv 37 (fun _ => xmv) ?_
    refine zdv 38 (fun _ => (xix (kk := i) sl_22 h.D.slh)) ?_
    refine zdla 39 (fun w hS => (xlr (u := .int .i64 (p.D i)) pl_3 (h.D.below hS.below))) ?_
    have hbv := h.iD i
    refine zdv 40 (fun _ => xlss) ?_
    refine zdv 41 (fun _ => xpf) ?_
    refine zdv 42 (fun _ => xmv) ?_
    refine zdb 88 ?_ ?_ <;> intro hc
    ·
     refine zdof 43 ?_
     refine zdof 44 ?_
     refine zdof 45 ?_
     refine zdof 46 ?_
     refine zdof 47 ?_
     refine zdof 48 ?_
     refine zdv 49 (fun _ => xpt) ?_
     refine zdd <| ztn <| zct <| zsr ?_
     refine zlv xas ?_
     refine zlt <| zrt <| zbr <| ztr <| ztr <| zbr <| ztr <| zf1 ⟨_, rfl, ?_⟩
     first
     | exact ⟨false_B (by intro hk; have h1 := hk.m1; have h2 := hk.m2; have h3 := hk.d; have h4 := hk.s1; have h5 := hk.s2; have h6 := hk.k1; have h7 := hk.k2; omega), hS.nl⟩
     | exact ⟨false_B (by intro hk; have := hk.all i (by omega) (by omega); unfold Prob.each at this; omega), hS.nl⟩
    refine zdv 43 (fun _ => (xfb 1 fd_24_1)) ?_
    refine zdla 44 (fun w hS => (xlb 0 pl_22 hS)) ?_
    refine zdv 45 (fun _ => xmv) ?_
    refine zdv 46 (fun _ => (xix (kk := i) sl_22 h.D.slh)) ?_
    refine zdla 47 (fun w hS => (xlr (u := .int .i64 (p.D i)) pl_3 (h.D.below hS.below))) ?_
    have hbv := h.iD i
    refine zdv 48 (fun _ => xgtr) ?_
    refine zdv 49 (fun _ => xpf) ?_
    refine zdd <| ztn ?_
    refine zcif ?_ ?_ <;> intro hc
    ·
     refine zsr ?_
     refine zlv xas ?_
     refine zlt <| zrt <| zbr <| ztr <| ztr <| zbr <| ztr <| zf1 ⟨_, rfl, ?_⟩
     first
     | exact ⟨false_B (by intro hk; have h1 := hk.m1; have h2 := hk.m2; have h3 := hk.d; have h4 := hk.s1; have h5 := hk.s2; have h6 := hk.k1; have h7 := hk.k2; omega), hS.nl⟩
     | exact ⟨false_B (by intro hk; have := hk.all i (by omega) (by omega); unfold Prob.each at this; omega), hS.nl⟩
    refine zsk <| zbn <| ztn <| zrg ?_
    refine zlv xmv ?_
    refine zlv (xadd (r := i + 1)) ?_
    refine zlv xas ?_
    refine zln <| zlq ⟨i + 1, rfl, (by omega), (by omega), ?_, rfl, hS⟩
    ·
     intro k h0' h1'; rcases Int.lt_or_eq_of_le (show k ≤ i by omega) with hk | hk; exact hall k h0' hk; rw [hk]; unfold Prob.each; omega
   refine zdof 20 ?_
   refine zdof 21 ?_
   refine zdof 22 ?_
   refine zdof 23 ?_
   refine zdof 24 ?_
   refine zdof 25 ?_
   refine zdof 26 ?_
   refine zdof 27 ?_
   refine zdof 28 ?_
   refine zdof 29 ?_
   refine zdof 30 ?_
   refine zdof 31 ?_
   refine zdv 32 (fun _ => xpf) ?_
   refine zdv 33 (fun _ => xpf) ?_
   refine zdv 34 (fun _ => xmv) ?_
   refine zdv 35 (fun _ => (xfb 1 fd_24_1)) ?_
   refine zdla 36 (fun w hS => (xlb 0 pl_22 hS)) ?_
   refine zdv 37 (fun _ => xmv) ?_
   refine zdv 38 (fun _ => (xix (kk := i) sl_22 h.D.slh)) ?_
   refine zdla 39 (fun w hS => (xlr (u := .int .i64 (p.D i)) pl_3 (h.D.below hS.below))) ?_
   have hbv := h.iD i
   refine zdv 40 (fun _ => xlss) ?_
   refine zdv 41 (fun _ => xpf) ?_
   refine zdv 42 (fun _ => xmv) ?_
   refine zdb 88 ?_ ?_ <;> intro hc
   ·
    refine zdof 43 ?_
    refine zdof 44 ?_
    refine zdof 45 ?_
    refine zdof 46 ?_
    refine zdof 47 ?_
    refine zdof 48 ?_
    refine zdv 49 (fun _ => xpt) ?_
    refine zdd <| ztn <| zct <| zsr ?_
    refine zlv xas ?_
    refine zlt <| zrt <| zbr <| ztr <| ztr <| zbr <| ztr <| zf1 ⟨_, rfl, ?_⟩
    first
    | exact ⟨false_B (by intro hk; have h1 := hk.m1; have h2 := hk.m2; have h3 := hk.d; have h4 := hk.s1; have h5 := hk.s2; have h6 := hk.k1; have h7 := hk.k2; omega), hS.nl⟩
    | exact ⟨false_B (by intro hk; have := hk.all i (by omega) (by omega); unfold Prob.each at this; omega), hS.nl⟩
   refine zdv 43 (fun _ => (xfb 1 fd_24_1)) ?_
   refine zdla 44 (fun w hS => (xlb 0 pl_22 hS)) ?_
   refine zdv 45 (fun _ => xmv) ?_
   refine zdv 46 (fun _ => (xix (kk := i) sl_22 h.D.slh)) ?_
   refine zdla 47 (fun w hS => (xlr (u := .int .i64 (p.D i)) pl_3 (h.D.below hS.below))) ?_
   have hbv := h.iD i
   refine zdv 48 (fun _ => xgtr) ?_
   refine zdv 49 (fun _ => xpf) ?_
   refine zdd <| ztn ?_
   refine zcif ?_ ?_ <;> intro hc
   ·
    refine zsr ?_
    refine zlv xas ?_
    refine zlt <| zrt <| zbr <| ztr <| ztr <| zbr <| ztr <| zf1 ⟨_, rfl, ?_⟩
    first
    | exact ⟨false_B (by intro hk; have h1 := hk.m1; have h2 := hk.m2; have h3 := hk.d; have h4 := hk.s1; have h5 := hk.s2; have h6 := hk.k1; have h7 := hk.k2; omega), hS.nl⟩
    | exact ⟨false_B (by intro hk; have := hk.all i (by omega) (by omega); unfold Prob.each at this; omega), hS.nl⟩
   refine zsk <| zbn <| ztn <| zrg ?_
   refine zlv xmv ?_
   refine zlv (xadd (r := i + 1)) ?_
   refine zlv xas ?_
   refine zln <| zlq ⟨i + 1, rfl, (by omega), (by omega), ?_, rfl, hS⟩
   ·
    intro k h0' h1'; rcases Int.lt_or_eq_of_le (show k ≤ i by omega) with hk | hk; exact hall k h0' hk; rw [hk]; unfold Prob.each; omega
  refine zxt <| ztx <| ztx <| zbh <| ztn <| zsr ?_
  refine zlv xas ?_
  refine zlt <| zrt <| zf1 ⟨_, rfl, ?_⟩
  exact ⟨true_B ⟨by omega, by omega, by omega, by omega, by omega, by omega, by omega, fun k h0 h1 => hall k h0 (by omega)⟩, hS.nl⟩

set_option maxRecDepth 20000 in
theorem c_few28 {vL vD : Value} {p : Prob} (w0 : World) (h : PAt w0 vL vD p) :
    Calls Try.prog 8 [.agg #[vL, vD, .int .i64 p.stock, .int .i64 p.kerf]].toArray w0 fun e w => ∃ v, e = .returned v ∧ v = B (Few28 p) ∧ Sat w0 w [] := by
  have hm := h.L.slh.n0; have hm1 := h.L.slh.n1; have hd := h.D.slh.n0; have hd1 := h.D.slh.n1; have hs := h.is; have hk := h.ik
  refine zenG Try.func8 Try.ntmps8 fun w hS => ?_
  refine zsr ?_
  refine zla (xbx (cs := [_, _, _, _]) hS) ?_; rintro _ w ⟨g1, rfl, hS⟩
  replace hS := hS.n1
  refine zlv xas ?_
  refine zlt <| zsq <| zsr ?_
  refine zlv (xfb 0 fd_24_0) ?_
  refine zlv (xlb 0 pl_22 hS) ?_
  refine zlv (xln sl_22 h.L.slh) ?_
  refine zs2 ?_
  refine zlb 8 ?_ ?_ <;> intro hc
  ·
   iterate 4 refine zlo ?_
   refine zlv xpt ?_
   refine zlt <| zct <| zsr ?_
   refine zlv xas ?_
   refine zlt <| zrt <| ztr <| zf1 ⟨_, rfl, ?_⟩
   exact ⟨false_B (by rintro ⟨h2, h3, h4⟩; first | omega | (have h5 := (h4 (Classical.not_not.1 ‹¬ ¬ (p.Ok)›)).1 i (by omega) (by omega); omega) | (have h5 := (h4 (Classical.not_not.1 ‹¬ ¬ (p.Ok)›)).2; omega)), hS.nl⟩
  refine zlv (xfb 1 fd_24_1) ?_
  refine zlv (xlb 0 pl_22 hS) ?_
  refine zlv (xln sl_22 h.D.slh) ?_
  refine zs2 ?_
  refine zlt ?_
  refine zcif ?_ ?_ <;> intro hc
  ·
   refine zsr ?_
   refine zlv xas ?_
   refine zlt <| zrt <| ztr <| zf1 ⟨_, rfl, ?_⟩
   exact ⟨false_B (by rintro ⟨h2, h3, h4⟩; first | omega | (have h5 := (h4 (Classical.not_not.1 ‹¬ ¬ (p.Ok)›)).1 i (by omega) (by omega); omega) | (have h5 := (h4 (Classical.not_not.1 ‹¬ ¬ (p.Ok)›)).2; omega)), hS.nl⟩
  refine zsk <| ztn <| zsq <| zsr ?_
  refine zlv (xls 0 st_24 hS) ?_
  refine zlc (xc0 cl_10) (c_rvalid28 (p := p) w (h.below hS.below)) ?_; rintro _ w ⟨rfl, hS'⟩
  replace hS := hS.cmp hS'; clear hS'
  refine zlv xnot ?_
  refine zlt ?_
  refine zcif ?_ ?_ <;> intro hc
  ·
   refine zsr ?_
   refine zlv xas ?_
   refine zlt <| zrt <| ztr <| zf1 ⟨_, rfl, ?_⟩
   exact ⟨true_B (by first | exact ⟨by omega, by omega, fun hk => absurd hk ‹¬ p.Ok›⟩), hS.nl⟩
  refine zsk <| ztn <| zsq <| zsr ?_
  refine zlv xas ?_
  refine zlt <| zbk <| zlp (fun mm M w => ∃ (i : Int), mm = ((p.d - i).toNat) ∧ (0 ≤ i) ∧ (i ≤ p.d) ∧ (∀ k, 0 ≤ k → k < i → p.D k ≤ 30) ∧ M = [(1, .pointer (some ⟨g1, 0, none⟩)), (3, .int .i64 i)] ∧ Sat w0 w [.blk g1 [vL, vD, .int .i64 p.stock, .int .i64 p.kerf]]) ⟨0, rfl, (by omega), (by omega), ?_, rfl, hS⟩ ?_
  ·
   intro k h0 h1; omega
  clear hS w
  rintro mm M w ⟨i, rfl, h0, h1, hall, rfl, hS⟩
  refine zsq <| zsr ?_
  refine zlv xmv ?_
  refine zlv (xfb 1 fd_24_1) ?_
  refine zlv (xlb 0 pl_22 hS) ?_
  refine zlv (xln sl_22 h.D.slh) ?_
  refine zlv xlss ?_
  refine zlt ?_
  refine zcif ?_ ?_ <;> intro hc
  ·
   refine zsk <| ztn <| zsq <| zbk <| zsr ?_
   refine zlv (xfb 1 fd_24_1) ?_
   refine zlv (xlb 0 pl_22 hS) ?_
   refine zlv xmv ?_
   refine zlv (xix (kk := i) sl_22 h.D.slh) ?_
   refine zlv (xlr (u := .int .i64 (p.D i)) pl_3 (h.D.below hS.below)) ?_
   have hbv := h.iD i
   refine zlv xgtr ?_
   refine zlt ?_
   refine zcif ?_ ?_ <;> intro hc
   ·
    refine zsr ?_
    refine zlv xas ?_
    refine zlt <| zrt <| zbr <| ztr <| ztr <| zbr <| ztr <| zf1 ⟨_, rfl, ?_⟩
    exact ⟨false_B (by rintro ⟨h2, h3, h4⟩; first | omega | (have h5 := (h4 (Classical.not_not.1 ‹¬ ¬ (p.Ok)›)).1 i (by omega) (by omega); omega) | (have h5 := (h4 (Classical.not_not.1 ‹¬ ¬ (p.Ok)›)).2; omega)), hS.nl⟩
   refine zsk <| zbn <| ztn <| zrg ?_
   refine zlv xmv ?_
   refine zlv (xadd (r := i + 1)) ?_
   refine zlv xas ?_
   refine zln <| zlq ⟨i + 1, rfl, (by omega), (by omega), ?_, rfl, hS⟩
   ·
    intro k h0' h1'; rcases Int.lt_or_eq_of_le (show k ≤ i by omega) with hk | hk; exact hall k h0' hk; rw [hk]; omega
  refine zxt <| ztx <| ztx <| zbh <| ztn <| zsq ?_
  refine zdst [0] [0] 1000 mx_ hS ?_; clear hS; intro w hS
  refine zdv 0 (fun _ => (xfb 0 fd_24_0)) ?_
  have hp := (Classical.not_not.1 ‹¬ ¬ (p.Ok)›); have hm2 := hp.m1; have hL := (hp.all (p.m - 1) (by omega) (by omega)); unfold Prob.each at hL; have hs2 := hp.s2
  refine zdla 1 (fun w hS => (xlb 0 pl_22 hS)) ?_
  refine zdv 2 (fun _ => (xln sl_22 h.L.slh)) ?_
  refine zdv 3 (fun _ => xleq) ?_
  refine zdv 4 (fun _ => xmv) ?_
  refine zdb 34 ?_ ?_ <;> intro hc
  ·
   refine zdv 5 (fun _ => (xfb 2 fd_24_2)) ?_
   refine zdla 6 (fun w hS => (xlb 0 pl_3 hS)) ?_
   refine zdv 7 (fun _ => (xfb 0 fd_24_0)) ?_
   refine zdla 8 (fun w hS => (xlb 0 pl_22 hS)) ?_
   refine zdv 9 (fun _ => (xfb 0 fd_24_0)) ?_
   refine zdla 10 (fun w hS => (xlb 0 pl_22 hS)) ?_
   refine zdv 11 (fun _ => (xln sl_22 h.L.slh)) ?_
   refine zdv 12 (fun _ => (xsub (r := p.m - 1))) ?_
   refine zdv 13 (fun _ => (xix (kk := p.m - 1) sl_22 h.L.slh)) ?_
   refine zdla 14 (fun w hS => (xlr (u := .int .i64 (p.L (p.m - 1))) pl_3 (h.L.below hS.below))) ?_
   have hbv := h.iL (p.m - 1)
   refine zdv 15 (fun _ => (xmul (r := 12 * p.L (p.m - 1)))) ?_
   refine zdv 16 (fun _ => xleq) ?_
   refine zdv 17 (fun _ => xpt) ?_
   refine zdv 18 (fun _ => xas) ?_
   refine zdd <| ztn <| zrt <| zf1 ⟨_, rfl, ?_⟩
   exact ⟨B_congr (by constructor; exact fun h5 => ⟨by omega, by omega, fun _ => ⟨fun k h6 h7 => hall k h6 (by omega), by omega, by omega⟩⟩; rintro ⟨h2, h3, h4⟩; have h5 := (h4 (Classical.not_not.1 ‹¬ ¬ (p.Ok)›)).2.2; omega), hS.nl⟩
  refine zdof 5 ?_
  refine zdof 6 ?_
  refine zdof 7 ?_
  refine zdof 8 ?_
  refine zdof 9 ?_
  refine zdof 10 ?_
  refine zdof 11 ?_
  refine zdof 12 ?_
  refine zdof 13 ?_
  refine zdof 14 ?_
  refine zdof 15 ?_
  refine zdof 16 ?_
  refine zdv 17 (fun _ => xpf) ?_
  refine zdv 18 (fun _ => xas) ?_
  refine zdd <| ztn <| zrt <| zf1 ⟨_, rfl, ?_⟩
  exact ⟨false_B (by rintro ⟨h2, h3, h4⟩; first | omega | (have h5 := (h4 (Classical.not_not.1 ‹¬ ¬ (p.Ok)›)).1 i (by omega) (by omega); omega) | (have h5 := (h4 (Classical.not_not.1 ‹¬ ¬ (p.Ok)›)).2; omega)), hS.nl⟩

set_option maxRecDepth 20000 in
theorem c_used {vL vD : Value} {p : Prob} {vA : Value} {n : Int} {f : Int → Int} (w0 : World) (h : PAt w0 vL vD p) (hp : p.Ok) (hA : Row w0 vA 1 n (ints f)) (hn : n = p.m) (ha : ∀ i, 0 ≤ i → i < p.m → 0 ≤ f i ∧ f i ≤ 2000) :
    Calls Try.prog 46 [.agg #[vL, vD, .int .i64 p.stock, .int .i64 p.kerf], vA].toArray w0 fun e w => ∃ v, e = .returned v ∧ v = .int .i64 (Used p f p.m.toNat) ∧ Sat w0 w [] := by
  subst hn; have hm := hp.m1; have hm2 := hp.m2
  refine zenG Try.func46 Try.ntmps46 fun w hS => ?_
  refine zsr ?_
  refine zla (xbx (cs := [_, _, _, _]) hS) ?_; rintro _ w ⟨g1, rfl, hS⟩
  replace hS := hS.n1
  refine zlv xas ?_
  refine zlz ?_
  refine zlv xas ?_
  refine zlt <| zsq <| zsr ?_
  refine zlv xas ?_
  refine zlt <| zbk <| zlp (fun mm M w => ∃ (s : Int) (i : Int), mm = ((p.m - i).toNat) ∧ (0 ≤ i) ∧ (i ≤ p.m) ∧ (s = Used p f i.toNat) ∧ M = [(1, vA), (2, .pointer (some ⟨g1, 0, none⟩)), (4, .int .i64 0), (5, .int .i64 s), (6, .int .i64 i)] ∧ Sat w0 w [.blk g1 [vL, vD, .int .i64 p.stock, .int .i64 p.kerf]]) ⟨0, 0, rfl, (by omega), (by omega), ?_, rfl, hS⟩ ?_
  ·
   rfl
  clear hS w
  rintro mm M w ⟨s, i, rfl, h0, h1, hs, rfl, hS⟩
  refine zsq <| zsr ?_
  refine zlv xmv ?_
  refine zlv (xfb 0 fd_24_0) ?_
  refine zlv (xlb 0 pl_22 hS) ?_
  refine zlv (xln sl_22 h.L.slh) ?_
  refine zlv xlss ?_
  refine zlt ?_
  refine zcif ?_ ?_ <;> intro hc
  ·
   refine zsk <| ztn <| zsq <| zbk ?_
   refine zdst [0] [0] 1000 mx_ hS ?_; clear hS; intro w hS
   refine zdv 0 (fun _ => xmv) ?_
   have he := hp.all i (by omega) (by omega); unfold Prob.each at he; have hai := ha i (by omega) (by omega); have hk1 := hp.k1; have hk2 := hp.k2; have hs2 := hp.s2; have ht := used_term hp h0 (by omega : i < p.m) hai; have hb := used_bound hp ha h0 (by omega : i ≤ p.m); have hb2 := used_bound hp ha (by omega : 0 ≤ i + 1) (by omega : i + 1 ≤ p.m)
   refine zdv 1 (fun _ => xmv) ?_
   refine zdv 2 (fun _ => xmv) ?_
   refine zdv 3 (fun _ => (xix (kk := i) sl_22 hA.slh)) ?_
   refine zdla 4 (fun w hS => (xlr (u := .int .i64 (f i)) pl_3 (hA.below hS.below))) ?_
   refine zdv 5 (fun _ => (xfb 0 fd_24_0)) ?_
   refine zdla 6 (fun w hS => (xlb 0 pl_22 hS)) ?_
   refine zdv 7 (fun _ => xmv) ?_
   refine zdv 8 (fun _ => (xix (kk := i) sl_22 h.L.slh)) ?_
   refine zdla 9 (fun w hS => (xlr (u := .int .i64 (p.L i)) pl_3 (h.L.below hS.below))) ?_
   have hbv := h.iL i
   refine zdv 10 (fun _ => (xfb 3 fd_24_3)) ?_
   refine zdla 11 (fun w hS => (xlb 0 pl_3 hS)) ?_
   refine zdv 12 (fun _ => (xadd (r := p.L i + p.kerf))) ?_
   refine zdv 13 (fun _ => (xmul (r := ((f i) * (p.L i + p.kerf))) (e := rfl) (hr := (by unfold I64; omega)))) ?_
   refine zdv 14 (fun _ => (xadd (r := s + ((f i) * (p.L i + p.kerf))) (hr := (by unfold I64; omega)))) ?_
   refine zdv 15 (fun _ => xas) ?_
   refine zdd <| zbn <| ztn <| zrg ?_
   refine zlv xmv ?_
   refine zlv (xadd (r := i + 1)) ?_
   refine zlv xas ?_
   refine zln <| zlq ⟨s + ((f i) * (p.L i + p.kerf)), i + 1, rfl, (by omega), (by omega), ?_, rfl, hS⟩
   ·
    rw [hs]; exact (sumTo_next _ h0).symm
  refine zxt <| ztx <| ztx <| zbh <| ztn <| zsr ?_
  refine zs2 ?_
  refine zlt <| zrt <| zf1 ⟨_, rfl, ?_⟩
  obtain rfl : i = p.m := by omega
  exact ⟨congrArg (Value.int .i64) hs, hS.nl⟩

set_option maxRecDepth 20000 in
theorem c_fits {vL vD : Value} {p : Prob} {vA : Value} {n : Int} {f : Int → Int} (w0 : World) (h : PAt w0 vL vD p) (hA : Row w0 vA 1 n (ints f)) :
    Calls Try.prog 87 [.agg #[vL, vD, .int .i64 p.stock, .int .i64 p.kerf], vA].toArray w0 fun e w => ∃ v, e = .returned v ∧ v = B (FitsP p n f) ∧ Sat w0 w [] := by
  have hm := h.L.slh.n0; have hm1 := h.L.slh.n1; have hd := h.D.slh.n0; have hs := h.is; have hk := h.ik; have hn := hA.slh.n0; have hn1 := hA.slh.n1
  refine zenG Try.func87 Try.ntmps87 fun w hS => ?_
  refine zsr ?_
  refine zla (xbx (cs := [_, _, _, _]) hS) ?_; rintro _ w ⟨g1, rfl, hS⟩
  replace hS := hS.n1
  refine zlv xas ?_
  refine zlt <| zsq <| zsr ?_
  refine zlv (xls 0 st_24 hS) ?_
  refine zlc (xc0 cl_10) (c_rvalid28 (p := p) w (h.below hS.below)) ?_; rintro _ w ⟨rfl, hS'⟩
  replace hS := hS.cmp hS'; clear hS'
  refine zs2 ?_
  refine zlb 9 ?_ ?_ <;> intro hc
  ·
   iterate 6 refine zlo ?_
   refine zlv xpt ?_
   refine zlt <| zct <| zsr ?_
   refine zlv xas ?_
   refine zlt <| zrt <| ztr <| zf1 ⟨_, rfl, ?_⟩
   first
   | exact ⟨false_B (by intro hk; exact absurd hk.ok ‹¬ p.Ok›), hS.nl⟩
   | exact ⟨false_B (by intro hk; have := hk.eq; omega), hS.nl⟩
   | exact ⟨false_B (by intro hk; have := hk.all i (by omega) (by have := hk.eq; omega); omega), hS.nl⟩
  refine zlv xmv ?_
  refine zlv (xln sl_22 hA.slh) ?_
  refine zlv (xfb 0 fd_24_0) ?_
  refine zlv (xlb 0 pl_22 hS) ?_
  refine zlv (xln sl_22 h.L.slh) ?_
  refine zs2 ?_
  refine zlt ?_
  refine zcif ?_ ?_ <;> intro hc
  ·
   refine zsr ?_
   refine zlv xas ?_
   refine zlt <| zrt <| ztr <| zf1 ⟨_, rfl, ?_⟩
   first
   | exact ⟨false_B (by intro hk; exact absurd hk.ok ‹¬ p.Ok›), hS.nl⟩
   | exact ⟨false_B (by intro hk; have := hk.eq; omega), hS.nl⟩
   | exact ⟨false_B (by intro hk; have := hk.all i (by omega) (by have := hk.eq; omega); omega), hS.nl⟩
  refine zsk <| ztn <| zsq <| zsr ?_
  refine zlv xas ?_
  refine zlt <| zbk <| zlp (fun mm M w => ∃ (i : Int), mm = ((n - i).toNat) ∧ (0 ≤ i) ∧ (i ≤ n) ∧ (∀ k, 0 ≤ k → k < i → 0 ≤ f k ∧ f k ≤ 2000) ∧ M = [(1, vA), (2, .pointer (some ⟨g1, 0, none⟩)), (5, .int .i64 i)] ∧ Sat w0 w [.blk g1 [vL, vD, .int .i64 p.stock, .int .i64 p.kerf]]) ⟨0, rfl, (by omega), (by omega), ?_, rfl, hS⟩ ?_
  ·
   intro k h0 h1; omega
  clear hS w
  rintro mm M w ⟨i, rfl, h0, h1, hall, rfl, hS⟩
  refine zsq <| zsr ?_
  refine zs2 ?_
  refine zlv (xln sl_22 hA.slh) ?_
  refine zlv xlss ?_
  refine zlt ?_
  refine zcif ?_ ?_ <;> intro hc
  ·
   refine zsk <| ztn <| zsq <| zbk <| zsr ?_
   refine zs2 ?_
   refine zlv (xix (kk := i) sl_22 hA.slh) ?_
   refine zlv (xlr (u := .int .i64 (f i)) pl_3 (hA.below hS.below)) ?_
   refine zs2 ?_
   refine zlb 28 ?_ ?_ <;> intro hc
   ·
    iterate 5 refine zlo ?_
    refine zlv xpt ?_
    refine zlt <| zct <| zsr ?_
    refine zlv xas ?_
    refine zlt <| zrt <| zbr <| ztr <| ztr <| zbr <| ztr <| zf1 ⟨_, rfl, ?_⟩
    first
    | exact ⟨false_B (by intro hk; exact absurd hk.ok ‹¬ p.Ok›), hS.nl⟩
    | exact ⟨false_B (by intro hk; have := hk.eq; omega), hS.nl⟩
    | exact ⟨false_B (by intro hk; have := hk.all i (by omega) (by have := hk.eq; omega); omega), hS.nl⟩
   refine zs2 ?_
   refine zlv (xix (kk := i) sl_22 hA.slh) ?_
   refine zlv (xlr (u := .int .i64 (f i)) pl_3 (hA.below hS.below)) ?_
   refine zs2 ?_
   refine zlt ?_
   refine zcif ?_ ?_ <;> intro hc
   ·
    refine zsr ?_
    refine zlv xas ?_
    refine zlt <| zrt <| zbr <| ztr <| ztr <| zbr <| ztr <| zf1 ⟨_, rfl, ?_⟩
    first
    | exact ⟨false_B (by intro hk; exact absurd hk.ok ‹¬ p.Ok›), hS.nl⟩
    | exact ⟨false_B (by intro hk; have := hk.eq; omega), hS.nl⟩
    | exact ⟨false_B (by intro hk; have := hk.all i (by omega) (by have := hk.eq; omega); omega), hS.nl⟩
   refine zsk <| zbn <| ztn <| zrg ?_
   refine zlv xmv ?_
   refine zlv (xadd (r := i + 1)) ?_
   refine zlv xas ?_
   refine zln <| zlq ⟨i + 1, rfl, (by omega), (by omega), ?_, rfl, hS⟩
   ·
    intro k h0' h1'; rcases Int.lt_or_eq_of_le (show k ≤ i by omega) with hk | hk; exact hall k h0' hk; rw [hk]; omega
  refine zxt <| ztx <| ztx <| zbh <| ztn <| zsq ?_
  refine zdst [0] [0] 1000 mx_ hS ?_; clear hS; intro w hS
  refine zdla 0 (fun w hS => (xls 0 st_24 hS)) ?_
  have hp := (Classical.not_not.1 ‹¬ ¬ (p.Ok)›); have hs1 := hp.s1; have hs2 := hp.s2; have hk1 := hp.k1; have hk2 := hp.k2
  refine zdv 1 (fun _ => xmv) ?_
  refine zdv 3 (fun _ => (xfb 2 fd_24_2)) ?_
  refine zdla 4 (fun w hS => (xlb 0 pl_3 hS)) ?_
  refine zdv 5 (fun _ => (xfb 3 fd_24_3)) ?_
  refine zdla 6 (fun w hS => (xlb 0 pl_3 hS)) ?_
  refine zdv 7 (fun _ => (xadd (r := p.stock + p.kerf))) ?_
  refine zdc 2 (xc0 cl_46) (c_used (p := p) w (h.below hS.below) (Classical.not_not.1 ‹¬ ¬ (p.Ok)›) (hA.below hS.below) (by omega) (fun k k0 k1 => hall k k0 (by omega))) ?_; rintro _ w ⟨rfl, hS'⟩
  replace hS := hS.cmp hS'; clear hS'
  refine ⟨⟨fun _ => hS, hS⟩, ?_⟩
  refine zdv 8 (fun _ => xleq) ?_
  refine zdv 9 (fun _ => xas) ?_
  refine zdd <| ztn <| zrt <| zf1 ⟨_, rfl, ?_⟩
  exact ⟨B_congr ⟨fun hu => ⟨(Classical.not_not.1 ‹¬ ¬ (p.Ok)›), by omega, fun k k0 k1 => hall k k0 (by omega), hu⟩, fun hk => hk.used⟩, hS.nl⟩

set_option maxRecDepth 20000 in
theorem c_sound {vL vD : Value} {p : Prob} {vU : Value} {u : Int} {pv : Int → Value} {len : Int → Int} {pt : Int → Int → Int} {cnt : Int → Int} (w0 : World) (h : PAt w0 vL vD p) (hU : UAt w0 vU u pv len pt cnt) :
    Calls Try.prog 67 [.agg #[vL, vD, .int .i64 p.stock, .int .i64 p.kerf], vU].toArray w0 fun e w => ∃ v, e = .returned v ∧ v = B (SoundP p u len pt cnt) ∧ Sat w0 w [] := by
  have hu := hU.row.slh.n0; have hu1 := hU.row.slh.n1
  refine zenG Try.func67 Try.ntmps67 fun w hS => ?_
  refine zsr ?_
  refine zla (xbx (cs := [_, _, _, _]) hS) ?_; rintro _ w ⟨g1, rfl, hS⟩
  replace hS := hS.n1
  refine zlv xas ?_
  refine zlt <| zsq <| zsr ?_
  refine zlv (xls 0 st_24 hS) ?_
  refine zlc (xc0 cl_10) (c_rvalid28 (p := p) w (h.below hS.below)) ?_; rintro _ w ⟨rfl, hS'⟩
  replace hS := hS.cmp hS'; clear hS'
  refine zs2 ?_
  refine zlb 9 ?_ ?_ <;> intro hc
  ·
   iterate 3 refine zlo ?_
   refine zlv xpt ?_
   refine zlt <| zct <| zsr ?_
   refine zlv xas ?_
   refine zlt <| zrt <| ztr <| zf1 ⟨_, rfl, ?_⟩
   first
   | exact ⟨false_B (by intro hk; exact absurd hk.ok ‹¬ p.Ok›), hS.nl⟩
   | exact ⟨false_B (by intro hk; have := hk.few; omega), hS.nl⟩
   | exact ⟨false_B (by intro hk; exact absurd (hk.all i (by omega) (by omega)).1 ‹_›), hS.nl⟩
   | exact ⟨false_B (by intro hk; have := (hk.all i (by omega) (by omega)).2; omega), hS.nl⟩
  refine zlv xmv ?_
  refine zlv (xln sl_25 hU.row.slh) ?_
  refine zs2 ?_
  refine zlt ?_
  refine zcif ?_ ?_ <;> intro hc
  ·
   refine zsr ?_
   refine zlv xas ?_
   refine zlt <| zrt <| ztr <| zf1 ⟨_, rfl, ?_⟩
   first
   | exact ⟨false_B (by intro hk; exact absurd hk.ok ‹¬ p.Ok›), hS.nl⟩
   | exact ⟨false_B (by intro hk; have := hk.few; omega), hS.nl⟩
   | exact ⟨false_B (by intro hk; exact absurd (hk.all i (by omega) (by omega)).1 ‹_›), hS.nl⟩
   | exact ⟨false_B (by intro hk; have := (hk.all i (by omega) (by omega)).2; omega), hS.nl⟩
  refine zsk <| ztn <| zsq <| zsr ?_
  refine zlv xas ?_
  refine zlt <| zbk <| zlp (fun mm M w => ∃ (i : Int), mm = ((u - i).toNat) ∧ (0 ≤ i) ∧ (i ≤ u) ∧ (∀ k, 0 ≤ k → k < i → FitsP p (len k) (pt k) ∧ 1 ≤ cnt k ∧ cnt k ≤ 1000) ∧ M = [(1, vU), (2, .pointer (some ⟨g1, 0, none⟩)), (5, .int .i64 i)] ∧ Sat w0 w [.blk g1 [vL, vD, .int .i64 p.stock, .int .i64 p.kerf]]) ⟨0, rfl, (by omega), (by omega), ?_, rfl, hS⟩ ?_
  ·
   intro k h0 h1; omega
  clear hS w
  rintro mm M w ⟨i, rfl, h0, h1, hall, rfl, hS⟩
  refine zsq <| zsr ?_
  refine zs2 ?_
  refine zlv (xln sl_25 hU.row.slh) ?_
  refine zlv xlss ?_
  refine zlt ?_
  refine zcif ?_ ?_ <;> intro hc
  ·
   refine zsk <| ztn <| zsq <| zbk <| zsq ?_
   refine zdst [0] [0] 1000 mx_ hS ?_; clear hS; intro w hS
   refine zdla 0 (fun w hS => (xls 0 st_24 hS)) ?_
   refine zdv 1 (fun _ => xmv) ?_
   refine zdv 2 (fun _ => xmv) ?_
   refine zdv 3 (fun _ => (xix (kk := 2 * i) sl_25 hU.row.slh)) ?_
   refine zdv 4 (fun _ => (xfc (kk := 2 * i) fd_34_0 hU.row.slh)) ?_
   refine zdla 5 (fun w hS => (xlr (u := (pv i)) pl_22 (hU.row.below hS.below) (e := (ucells0 pv cnt (by omega))))) ?_
   refine zdc 6 (xc0 cl_87) (c_fits (p := p) w (h.below hS.below) ((hU.p i (by omega) (by omega)).row.below hS.below)) ?_; rintro _ w ⟨rfl, hS'⟩
   replace hS := hS.cmp hS'; clear hS'
   refine ⟨⟨fun _ => hS, hS⟩, ?_⟩
   refine zdv 7 (fun _ => xnot) ?_
   refine zdv 8 (fun _ => xmv) ?_
   refine zdb 28 ?_ ?_ <;> intro hc
   ·
    refine zdof 9 ?_
    refine zdof 10 ?_
    refine zdof 11 ?_
    refine zdof 12 ?_
    refine zdof 13 ?_
    refine zdof 14 ?_
    refine zdv 15 (fun _ => xpt) ?_
    refine zdv 16 (fun _ => xmv) ?_
    refine zdof 17 ?_
    refine zdof 18 ?_
    refine zdof 19 ?_
    refine zdof 20 ?_
    refine zdof 21 ?_
    refine zdof 22 ?_
    refine zdv 23 (fun _ => xpt) ?_
    refine zdd <| ztn <| zct <| zsr ?_
    refine zlv xas ?_
    refine zlt <| zrt <| zbr <| ztr <| ztr <| zbr <| ztr <| zf1 ⟨_, rfl, ?_⟩
    first
    | exact ⟨false_B (by intro hk; exact absurd hk.ok ‹¬ p.Ok›), hS.nl⟩
    | exact ⟨false_B (by intro hk; have := hk.few; omega), hS.nl⟩
    | exact ⟨false_B (by intro hk; exact absurd (hk.all i (by omega) (by omega)).1 ‹_›), hS.nl⟩
    | exact ⟨false_B (by intro hk; have := (hk.all i (by omega) (by omega)).2; omega), hS.nl⟩
   refine zdv 9 (fun _ => xmv) ?_
   refine zdv 10 (fun _ => xmv) ?_
   refine zdv 11 (fun _ => (xix (kk := 2 * i) sl_25 hU.row.slh)) ?_
   refine zdv 12 (fun _ => (xfc (kk := 2 * i + 1) fd_34_1 hU.row.slh)) ?_
   refine zdla 13 (fun w hS => (xlr (u := .int .i64 (cnt i)) pl_3 (hU.row.below hS.below) (e := (ucells1 pv cnt (by omega))))) ?_
   have hbv := hU.c i
   refine zdv 14 (fun _ => xlss) ?_
   refine zdv 15 (fun _ => xpf) ?_
   refine zdv 16 (fun _ => xmv) ?_
   refine zdb 36 ?_ ?_ <;> intro hc
   ·
    refine zdof 17 ?_
    refine zdof 18 ?_
    refine zdof 19 ?_
    refine zdof 20 ?_
    refine zdof 21 ?_
    refine zdof 22 ?_
    refine zdv 23 (fun _ => xpt) ?_
    refine zdd <| ztn <| zct <| zsr ?_
    refine zlv xas ?_
    refine zlt <| zrt <| zbr <| ztr <| ztr <| zbr <| ztr <| zf1 ⟨_, rfl, ?_⟩
    first
    | exact ⟨false_B (by intro hk; exact absurd hk.ok ‹¬ p.Ok›), hS.nl⟩
    | exact ⟨false_B (by intro hk; have := hk.few; omega), hS.nl⟩
    | exact ⟨false_B (by intro hk; exact absurd (hk.all i (by omega) (by omega)).1 ‹_›), hS.nl⟩
    | exact ⟨false_B (by intro hk; have := (hk.all i (by omega) (by omega)).2; omega), hS.nl⟩
   refine zdv 17 (fun _ => xmv) ?_
   refine zdv 18 (fun _ => xmv) ?_
   refine zdv 19 (fun _ => (xix (kk := 2 * i) sl_25 hU.row.slh)) ?_
   refine zdv 20 (fun _ => (xfc (kk := 2 * i + 1) fd_34_1 hU.row.slh)) ?_
   refine zdla 21 (fun w hS => (xlr (u := .int .i64 (cnt i)) pl_3 (hU.row.below hS.below) (e := (ucells1 pv cnt (by omega))))) ?_
   have hbv := hU.c i
   refine zdv 22 (fun _ => xgtr) ?_
   refine zdv 23 (fun _ => xpf) ?_
   refine zdd <| ztn ?_
   refine zcif ?_ ?_ <;> intro hc
   ·
    refine zsr ?_
    refine zlv xas ?_
    refine zlt <| zrt <| zbr <| ztr <| ztr <| zbr <| ztr <| zf1 ⟨_, rfl, ?_⟩
    first
    | exact ⟨false_B (by intro hk; exact absurd hk.ok ‹¬ p.Ok›), hS.nl⟩
    | exact ⟨false_B (by intro hk; have := hk.few; omega), hS.nl⟩
    | exact ⟨false_B (by intro hk; exact absurd (hk.all i (by omega) (by omega)).1 ‹_›), hS.nl⟩
    | exact ⟨false_B (by intro hk; have := (hk.all i (by omega) (by omega)).2; omega), hS.nl⟩
   refine zsk <| zbn <| ztn <| zrg ?_
   refine zlv xmv ?_
   refine zlv (xadd (r := i + 1)) ?_
   refine zlv xas ?_
   refine zln <| zlq ⟨i + 1, rfl, (by omega), (by omega), ?_, rfl, hS⟩
   ·
    intro k h0' h1'; rcases Int.lt_or_eq_of_le (show k ≤ i by omega) with hk | hk; exact hall k h0' hk; rw [hk]; exact ⟨Classical.not_not.1 ‹_›, by omega, by omega⟩
  refine zxt <| ztx <| ztx <| zbh <| ztn <| zsr ?_
  refine zlv xas ?_
  refine zlt <| zrt <| zf1 ⟨_, rfl, ?_⟩
  exact ⟨true_B ⟨(Classical.not_not.1 ‹¬ ¬ (p.Ok)›), by omega, fun k k0 k1 => hall k k0 (by omega)⟩, hS.nl⟩

set_option maxRecDepth 20000 in
theorem c_made {vL vD : Value} {p : Prob} {vU : Value} {u : Int} {pv : Int → Value} {len : Int → Int} {pt : Int → Int → Int} {cnt : Int → Int} (w0 : World) (h : PAt w0 vL vD p) (hU : UAt w0 vU u pv len pt cnt) :
    Calls Try.prog 31 [.agg #[vL, vD, .int .i64 p.stock, .int .i64 p.kerf], vU].toArray w0 fun e w => ∃ v, e = .returned v ∧ ∃ vm n f e, v = .tuple #[vm, .int .i64 e] ∧ Slh vm n ∧ ((e = 0 ∧ SoundP p u len pt cnt ∧ n = p.m ∧ ∀ k, 0 ≤ k → k < p.m → f k = MadeTo pt cnt u.toNat k) ∨ (e = 1 ∧ ¬ (SoundP p u len pt cnt))) ∧ Sat w0 w [.own vm 1 3 n (ints f)] := by
  have hu := hU.row.slh.n0; have hu1 := hU.row.slh.n1; have hm := h.L.slh.n0
  refine zenG Try.func31 Try.ntmps31 fun w hS => ?_
  refine zsr ?_
  refine zla (xbx (cs := [_, _, _, _]) hS) ?_; rintro _ w ⟨g1, rfl, hS⟩
  replace hS := hS.n1
  refine zs2 ?_
  refine zlt <| zsq <| zsr ?_
  refine zlv (xls 0 st_24 hS) ?_
  refine zlv xmv ?_
  refine zlc (xc0 cl_67) (c_sound (p := p) w (h.below hS.below) (hU.below hS.below)) ?_; rintro _ w ⟨rfl, hS'⟩
  replace hS := hS.cmp hS'; clear hS'
  refine zlv xnot ?_
  refine zlt ?_
  refine zcif ?_ ?_ <;> intro hc
  ·
   refine zsr ?_
   refine zs2 ?_
   refine zlt <| zrt <| ztr <| zf2 ⟨_, rfl, ?_⟩
   exact ⟨_, 0, fun _ => 0, 1, rfl, slh_nil, .inr ⟨rfl, ‹¬ (SoundP p u len pt cnt)›⟩, (hS.addnil 1 3 (ints fun _ => 0)).sub (.cons _ (.cons_cons _ .slnil))⟩
  refine zsk <| ztn <| zsr ?_
  refine zlv (xfb 0 fd_24_0) ?_
  have hsp := (Classical.not_not.1 ‹¬ ¬ (SoundP p u len pt cnt)›); have hp := hsp.ok; have hm2 := hp.m2
  refine zlv (xlb 0 pl_22 hS) ?_
  refine zlv (xln sl_22 h.L.slh) ?_
  refine zla (xmk sl_22 el_3 hS) ?_; rintro v1 w ⟨hS, hv1⟩
  replace hS := hS.n2
  refine zlv xas ?_
  refine zlt <| zsq <| zsr ?_
  refine zlv xas ?_
  refine zlt <| zbk <| zlp (fun mm M w => ∃ (i : Int) (f : Int → Int), mm = ((u - i).toNat) ∧ (0 ≤ i) ∧ (i ≤ u) ∧ (∀ k, 0 ≤ k → k < p.m → f k = MadeTo pt cnt i.toNat k) ∧ M = [(1, vU), (4, .slice none 0 0), (5, .int .i64 0), (6, v1), (7, .int .i64 i)] ∧ Sat w0 w [.blk g1 [vL, vD, .int .i64 p.stock, .int .i64 p.kerf], .own v1 1 3 p.m (ints f)]) ⟨0, (fun _ => 0), rfl, (by omega), (by omega), ?_, rfl, hS⟩ ?_
  ·
   intro k _ _; rfl
  clear hS w
  rintro mm M w ⟨i, f, rfl, h0, h1, hf, rfl, hS⟩
  refine zsq <| zsr ?_
  refine zs2 ?_
  refine zlv (xln sl_25 hU.row.slh) ?_
  refine zlv xlss ?_
  refine zlt ?_
  refine zcif ?_ ?_ <;> intro hc
  ·
   refine zsk <| ztn <| zsq <| zbk <| zsr ?_
   refine zlv xas ?_
   refine zlt <| zbk <| zlp (fun mm M w => ∃ (k : Int) (g : Int → Int), mm = ((p.m - k).toNat) ∧ (0 ≤ k) ∧ (k ≤ p.m) ∧ (∀ j, 0 ≤ j → j < k → g j = MadeTo pt cnt (i + 1).toNat j) ∧ (∀ j, k ≤ j → j < p.m → g j = MadeTo pt cnt i.toNat j) ∧ M = [(1, vU), (4, .slice none 0 0), (5, .int .i64 0), (6, v1), (7, .int .i64 i), (8, .int .i64 k)] ∧ Sat w0 w [.blk g1 [vL, vD, .int .i64 p.stock, .int .i64 p.kerf], .own v1 1 3 p.m (ints g)]) ⟨0, f, rfl, (by omega), (by omega), ?_, ?_, rfl, hS⟩ ?_
   ·
    intro j j0 j1; omega
   ·
    intro j j0 j1; exact hf j j0 j1
   clear hS w
   rintro mm M w ⟨k, g, rfl, k0, k1, ha, hb, rfl, hS⟩
   refine zsq <| zsr ?_
   refine zs2 ?_
   refine zlv (xln sl_22 hv1) ?_
   refine zlv xlss ?_
   refine zlt ?_
   refine zcif ?_ ?_ <;> intro hc
   ·
    refine zsk <| ztn <| zsq <| zbk ?_
    refine zdst [0, 1] [0] 20 mx_ hS ?_; clear hS; intro w hS
    refine zdv 0 (fun _ => xmv) ?_
    refine zdv 1 (fun _ => xmv) ?_
    refine zdv 2 (fun _ => (xix (kk := k) sl_22 hv1)) ?_
    refine zdl 3 (fun w hS => (xlr (u := .int .i64 (g k)) pl_3 (hS.rowN 1 rfl))) ?_
    have hgk := hb k (by omega) (by omega); have hle := (hsp.all i h0 (by omega)).1.eq
    refine zdv 4 (fun _ => xmv) ?_
    refine zdv 5 (fun _ => xmv) ?_
    refine zdv 6 (fun _ => (xix (kk := 2 * i) sl_25 hU.row.slh)) ?_
    refine zdv 7 (fun _ => (xfc (kk := 2 * i) fd_34_0 hU.row.slh)) ?_
    refine zdla 8 (fun w hS => (xlr (u := (pv i)) pl_22 (hU.row.below hS.below) (e := (ucells0 pv cnt (by omega))))) ?_
    refine zdv 9 (fun _ => xmv) ?_
    refine zdv 10 (fun _ => (xix (kk := k) sl_22 (hU.p i (by omega) (by omega)).row.slh)) ?_
    refine zdla 11 (fun w hS => (xlr (u := .int .i64 ((pt i) k)) pl_3 ((hU.p i (by omega) (by omega)).row.below hS.below))) ?_
    have hbv := (hU.p i (by omega) (by omega)).i k
    refine zdv 12 (fun _ => xmv) ?_
    refine zdv 13 (fun _ => xmv) ?_
    refine zdv 14 (fun _ => (xix (kk := 2 * i) sl_25 hU.row.slh)) ?_
    refine zdv 15 (fun _ => (xfc (kk := 2 * i + 1) fd_34_1 hU.row.slh)) ?_
    refine zdla 16 (fun w hS => (xlr (u := .int .i64 (cnt i)) pl_3 (hU.row.below hS.below) (e := (ucells1 pv cnt (by omega))))) ?_
    have hbv := hU.c i
    have ht := made_term hsp h0 (by omega : i < u) k0 (by omega : k < p.m); have hb1 := made_bound hsp h0 (by omega : i ≤ u) k0 (by omega : k < p.m)
    refine zdv 17 (fun _ => (xmul (r := (((pt i) k) * (cnt i))) (e := rfl) (hr := (by unfold I64; omega)))) ?_
    refine zdv 18 (fun _ => (xadd (r := g k + (((pt i) k) * (cnt i))) (hr := (by unfold I64; omega)))) ?_
    refine zdv 19 (fun _ => (xix (kk := k) sl_22 hv1)) ?_
    refine zde 20 (xso 1 pl_3 hS (upd_ints _ _ _)) ?_; clear hS; rintro w hS
    replace hS := hS.n2
    refine ⟨⟨fun h => absurd h (by decide), hS.pk [0]⟩, ?_⟩
    refine zdd <| zbn <| ztn <| zrg ?_
    refine zlv xmv ?_
    refine zlv (xadd (r := k + 1)) ?_
    refine zlv xas ?_
    refine zln <| zlq ⟨k + 1, (upd g k (g k + (((pt i) k) * (cnt i)))), rfl, (by omega), (by omega), ?_, ?_, rfl, hS⟩
    ·
     intro j j0 j1; by_cases e : j = k
     · rw [e, upd_self, hgk]; exact (made_next pt cnt h0 k).symm
     · rw [upd_ne _ _ e]; exact ha j j0 (by omega)
    ·
     intro j j0 j1; rw [upd_ne _ _ (by omega)]; exact hb j (by omega) j1
   refine zxt <| ztx <| ztx <| zbh <| zbn <| ztn <| zrg ?_
   refine zlv xmv ?_
   refine zlv (xadd (r := i + 1)) ?_
   refine zlv xas ?_
   refine zln <| zlq ⟨i + 1, g, rfl, (by omega), (by omega), ?_, rfl, hS⟩
   ·
    intro j j0 j1; exact ha j j0 (by omega)
  refine zxt <| ztx <| ztx <| zbh <| ztn <| zsr ?_
  refine zs3 ?_
  refine zlt <| zrt <| zf2 ⟨_, rfl, ?_⟩
  obtain rfl : i = u := by omega
  exact ⟨_, p.m, f, 0, rfl, hv1, .inl ⟨rfl, hsp, rfl, hf⟩, hS.pk [1]⟩

set_option maxRecDepth 20000 in
theorem c_meets {vL vD : Value} {p : Prob} {vU : Value} {u : Int} {pv : Int → Value} {len : Int → Int} {pt : Int → Int → Int} {cnt : Int → Int} (w0 : World) (h : PAt w0 vL vD p) (hU : UAt w0 vU u pv len pt cnt) :
    Calls Try.prog 32 [.agg #[vL, vD, .int .i64 p.stock, .int .i64 p.kerf], vU].toArray w0 fun e w => ∃ v, e = .returned v ∧ v = B (MeetsP p u len pt cnt) ∧ Sat w0 w [] := by
  have hu := hU.row.slh.n0; have hu1 := hU.row.slh.n1; have hd := h.D.slh.n0
  refine zenG Try.func32 Try.ntmps32 fun w hS => ?_
  refine zsr ?_
  refine zla (xbx (cs := [_, _, _, _]) hS) ?_; rintro _ w ⟨g1, rfl, hS⟩
  replace hS := hS.n1
  refine zlv xas ?_
  refine zlz ?_
  refine zlv (xls 0 st_24 hS) ?_
  refine zlv xmv ?_
  refine zlc (xc0 cl_31) (c_made (p := p) w (h.below hS.below) (hU.below hS.below)) ?_; rintro _ w ⟨vmn1, n1, fn1, en1, rfl, hln1, hrn1, hS'⟩
  replace hS : Sat w0 w [.blk g1 [vL, vD, .int .i64 p.stock, .int .i64 p.kerf], .own vmn1 1 3 n1 (ints fn1)] := hS.comp hS'; clear hS'
  refine zs5 ?_
  refine zlt <| zsq <| zsr ?_
  refine zs2 ?_
  refine zlt ?_
  refine zcif ?_ ?_ <;> intro hc
  ·
   refine zsr ?_
   refine zlv xas ?_
   refine zlt <| zrt <| ztr <| zf1 ⟨_, rfl, ?_⟩
   first
   | exact ⟨false_B (by intro hk; exact absurd hk.s (hr.resolve_left (by omega)).2), hS.nl⟩
   | exact ⟨false_B (by intro hk; have h4 := hk.all i (by omega) (by omega); have h5 := hfm i (by omega) (by omega); omega), hS.nl⟩
   | exact ⟨false_B (by intro hk; rcases hrn1 with ⟨h1, _⟩ | ⟨_, h2⟩; omega; exact h2 hk.s), hS.nl⟩
  refine zsk <| ztn <| zsq <| zsr ?_
  refine zlv xas ?_
  refine zlt <| zbk ?_
  obtain ⟨hsp, hnm, hfm⟩ : SoundP p u len pt cnt ∧ n1 = p.m ∧ ∀ k, 0 ≤ k → k < p.m → fn1 k = MadeTo pt cnt u.toNat k := by rcases hrn1 with ⟨_, h1, h2, h3⟩ | ⟨h1, _⟩; exact ⟨h1, h2, h3⟩; omega
  have hp := hsp.ok; have hdm := hp.d; have hm2 := hp.m2
  refine zlp (fun mm M w => ∃ (i : Int), mm = ((p.m - i).toNat) ∧ (0 ≤ i) ∧ (i ≤ p.m) ∧ (∀ k, 0 ≤ k → k < i → p.D k ≤ MadeTo pt cnt u.toNat k) ∧ M = [(2, .pointer (some ⟨g1, 0, none⟩)), (5, vmn1), (7, .int .i64 i)] ∧ Sat w0 w [.blk g1 [vL, vD, .int .i64 p.stock, .int .i64 p.kerf], .own vmn1 1 3 n1 (ints fn1)]) ⟨0, rfl, (by omega), (by omega), ?_, rfl, hS⟩ ?_
  ·
   intro k h0 h1; omega
  clear hS w
  rintro mm M w ⟨i, rfl, h0, h1, hall, rfl, hS⟩
  refine zsq <| zsr ?_
  refine zs2 ?_
  refine zlv (xln sl_22 hln1) ?_
  refine zlv xlss ?_
  refine zlt ?_
  refine zcif ?_ ?_ <;> intro hc
  ·
   refine zsk <| ztn <| zsq <| zbk <| zsq ?_
   refine zdst [0, 1] [0, 1] 1000 mx_ hS ?_; clear hS; intro w hS
   refine zdv 0 (fun _ => xmv) ?_
   refine zdv 1 (fun _ => xmv) ?_
   refine zdv 2 (fun _ => (xix (kk := i) sl_22 hln1)) ?_
   refine zdla 3 (fun w hS => (xlr (u := .int .i64 (fn1 i)) pl_3 (hS.rowN 1 rfl))) ?_
   refine zdv 4 (fun _ => (xfb 1 fd_24_1)) ?_
   refine zdla 5 (fun w hS => (xlb 0 pl_22 hS)) ?_
   refine zdv 6 (fun _ => xmv) ?_
   refine zdv 7 (fun _ => (xix (kk := i) sl_22 h.D.slh)) ?_
   refine zdla 8 (fun w hS => (xlr (u := .int .i64 (p.D i)) pl_3 (h.D.below hS.below))) ?_
   have hbv := h.iD i
   refine zdv 9 (fun _ => xlss) ?_
   refine zdd <| ztn ?_
   refine zcif ?_ ?_ <;> intro hc
   ·
    refine zsr ?_
    refine zlv xas ?_
    refine zlt <| zrt <| zbr <| ztr <| ztr <| zbr <| ztr <| zf1 ⟨_, rfl, ?_⟩
    first
    | exact ⟨false_B (by intro hk; exact absurd hk.s (hr.resolve_left (by omega)).2), hS.nl⟩
    | exact ⟨false_B (by intro hk; have h4 := hk.all i (by omega) (by omega); have h5 := hfm i (by omega) (by omega); omega), hS.nl⟩
    | exact ⟨false_B (by intro hk; rcases hrn1 with ⟨h1, _⟩ | ⟨_, h2⟩; omega; exact h2 hk.s), hS.nl⟩
   refine zsk <| zbn <| ztn <| zrg ?_
   refine zlv xmv ?_
   refine zlv (xadd (r := i + 1)) ?_
   refine zlv xas ?_
   refine zln <| zlq ⟨i + 1, rfl, (by omega), (by omega), ?_, rfl, hS⟩
   ·
    intro k h0' h1'; rcases Int.lt_or_eq_of_le (show k ≤ i by omega) with hk | hk; exact hall k h0' hk; rw [hk]; have h5 := hfm i (by omega) (by omega); omega
  refine zxt <| ztx <| ztx <| zbh <| ztn <| zsr ?_
  refine zlv xas ?_
  refine zlt <| zrt <| zf1 ⟨_, rfl, ?_⟩
  exact ⟨true_B ⟨hsp, fun k k0 k1 => hall k k0 (by omega)⟩, hS.nl⟩

set_option maxRecDepth 20000 in
theorem c_bars {vU : Value} {u : Int} {pv : Int → Value} {len : Int → Int} {pt : Int → Int → Int} {cnt : Int → Int} (w0 : World) (hU : UAt w0 vU u pv len pt cnt) (hn : u ≤ 1000) (hcn : ∀ i, 0 ≤ i → i < u → 0 ≤ cnt i ∧ cnt i ≤ 1000) :
    Calls Try.prog 15 [vU].toArray w0 fun e w => ∃ v, e = .returned v ∧ v = .int .i64 (sumTo cnt u.toNat) ∧ Sat w0 w [] := by
  have hu := hU.row.slh.n0; have hu1 := hU.row.slh.n1
  refine zenG Try.func15 Try.ntmps15 fun w hS => ?_
  refine zsr ?_
  refine zlv xas ?_
  refine zlz ?_
  refine zlv xas ?_
  refine zlt <| zsq <| zsr ?_
  refine zlv xas ?_
  refine zlt <| zbk <| zlp (fun mm M w => ∃ (s : Int) (i : Int), mm = ((u - i).toNat) ∧ (0 ≤ i) ∧ (i ≤ u) ∧ (s = sumTo cnt i.toNat) ∧ M = [(0, vU), (2, .int .i64 0), (3, .int .i64 s), (4, .int .i64 i)] ∧ Sat w0 w []) ⟨0, 0, rfl, (by omega), (by omega), ?_, rfl, hS⟩ ?_
  ·
   rfl
  clear hS w
  rintro mm M w ⟨s, i, rfl, h0, h1, hs, rfl, hS⟩
  refine zsq <| zsr ?_
  refine zs2 ?_
  refine zlv (xln sl_25 hU.row.slh) ?_
  refine zlv xlss ?_
  refine zlt ?_
  refine zcif ?_ ?_ <;> intro hc
  ·
   refine zsk <| ztn <| zsq <| zbk <| zrg ?_
   refine zs3 ?_
   refine zlv (xix (kk := 2 * i) sl_25 hU.row.slh) ?_
   refine zlv (xfc (kk := 2 * i + 1) fd_34_1 hU.row.slh) ?_
   refine zlv (xlr (u := .int .i64 (cnt i)) pl_3 (hU.row.below hS.below) (e := (ucells1 pv cnt (by omega)))) ?_
   have hbv := hU.c i
   have hci := hcn i (by omega) (by omega); have hb := bars_bound hn hcn h0 (by omega : i ≤ u)
   refine zlv (xadd (r := s + (cnt i))) ?_
   refine zlv xas ?_
   refine zln <| zbn <| ztn <| zrg ?_
   refine zlv xmv ?_
   refine zlv (xadd (r := i + 1)) ?_
   refine zlv xas ?_
   refine zln <| zlq ⟨s + (cnt i), i + 1, rfl, (by omega), (by omega), ?_, rfl, hS⟩
   ·
    rw [hs]; exact (sumTo_next _ h0).symm
  refine zxt <| ztx <| ztx <| zbh <| ztn <| zsr ?_
  refine zs2 ?_
  refine zlt <| zrt <| zf1 ⟨_, rfl, ?_⟩
  obtain rfl : i = u := by omega
  exact ⟨congrArg (Value.int .i64) hs, hS⟩

set_option maxRecDepth 20000 in
theorem c_short {vU : Value} {u : Int} {pv : Int → Value} {len : Int → Int} {pt : Int → Int → Int} {cnt : Int → Int} (w0 : World) (hU : UAt w0 vU u pv len pt cnt) :
    Calls Try.prog 9 [vU].toArray w0 fun e w => ∃ v, e = .returned v ∧ v = B (ShortP u len cnt) ∧ Sat w0 w [] := by
  have hu := hU.row.slh.n0; have hu1 := hU.row.slh.n1
  refine zenG Try.func9 Try.ntmps9 fun w hS => ?_
  refine zsr ?_
  refine zlv xas ?_
  refine zlt <| zsq <| zsr ?_
  refine zlv xas ?_
  refine zlt <| zbk <| zlp (fun mm M w => ∃ (i : Int), mm = ((u - i).toNat) ∧ (0 ≤ i) ∧ (i ≤ u) ∧ (∀ k, 0 ≤ k → k < i → len k ≤ 25 ∧ cnt k ≤ 40) ∧ M = [(0, vU), (3, .int .i64 i)] ∧ Sat w0 w []) ⟨0, rfl, (by omega), (by omega), ?_, rfl, hS⟩ ?_
  ·
   intro k h0 h1; omega
  clear hS w
  rintro mm M w ⟨i, rfl, h0, h1, hall, rfl, hS⟩
  refine zsq <| zsr ?_
  refine zs2 ?_
  refine zlv (xln sl_25 hU.row.slh) ?_
  refine zlv xlss ?_
  refine zlt ?_
  refine zcif ?_ ?_ <;> intro hc
  ·
   refine zsk <| ztn <| zsq <| zbk <| zsr ?_
   refine zs2 ?_
   refine zlv (xix (kk := 2 * i) sl_25 hU.row.slh) ?_
   refine zlv (xfc (kk := 2 * i) fd_34_0 hU.row.slh) ?_
   refine zlv (xlr (u := (pv i)) pl_22 (hU.row.below hS.below) (e := (ucells0 pv cnt (by omega)))) ?_
   refine zlv (xln sl_22 (hU.p i (by omega) (by omega)).row.slh) ?_
   refine zs2 ?_
   refine zlb 17 ?_ ?_ <;> intro hc
   ·
    iterate 6 refine zlo ?_
    refine zlv xpt ?_
    refine zlt <| zct <| zsr ?_
    refine zlv xas ?_
    refine zlt <| zrt <| zbr <| ztr <| ztr <| zbr <| ztr <| zf1 ⟨_, rfl, ?_⟩
    exact ⟨false_B (by intro hk; have := hk.all i (by omega) (by omega); omega), hS⟩
   refine zs2 ?_
   refine zlv (xix (kk := 2 * i) sl_25 hU.row.slh) ?_
   refine zlv (xfc (kk := 2 * i + 1) fd_34_1 hU.row.slh) ?_
   refine zlv (xlr (u := .int .i64 (cnt i)) pl_3 (hU.row.below hS.below) (e := (ucells1 pv cnt (by omega)))) ?_
   have hbv := hU.c i
   refine zs2 ?_
   refine zlt ?_
   refine zcif ?_ ?_ <;> intro hc
   ·
    refine zsr ?_
    refine zlv xas ?_
    refine zlt <| zrt <| zbr <| ztr <| ztr <| zbr <| ztr <| zf1 ⟨_, rfl, ?_⟩
    exact ⟨false_B (by intro hk; have := hk.all i (by omega) (by omega); omega), hS⟩
   refine zsk <| zbn <| ztn <| zrg ?_
   refine zlv xmv ?_
   refine zlv (xadd (r := i + 1)) ?_
   refine zlv xas ?_
   refine zln <| zlq ⟨i + 1, rfl, (by omega), (by omega), ?_, rfl, hS⟩
   ·
    intro k h0' h1'; rcases Int.lt_or_eq_of_le (show k ≤ i by omega) with hk | hk; exact hall k h0' hk; rw [hk]; omega
  refine zxt <| ztx <| ztx <| zbh <| ztn <| zsr ?_
  refine zlv xmv ?_
  refine zlv (xln sl_25 hU.row.slh) ?_
  refine zs2 ?_
  refine zlt <| zrt <| zf1 ⟨_, rfl, ?_⟩
  exact ⟨B_congr (by exact ⟨fun h5 => ⟨fun k k0 k1 => hall k k0 (by omega), h5⟩, fun h5 => h5.few⟩), hS⟩

def ProperP (p : Prob) (n : Int) (f : Int → Int) : Prop := FitsP p n f ∧ ∀ k, 0 ≤ k → k < n → f k ≤ p.D k
theorem fits_step {p : Prob} {n : Int} {f : Int → Int} (hf : FitsP p n f) {i : Int} (i0 : 0 ≤ i) (i1 : i < n) : 0 ≤ f i ∧ f i ≤ (p.stock + p.kerf - Used p f i.toNat).tdiv (p.L i + p.kerf) := by
  have hp := hf.ok
  have hn := hf.eq
  have he := hp.all i i0 (by omega)
  unfold Prob.each at he
  have hk := hp.k1
  have hu : ∀ j : Nat, i.toNat + j ≤ n.toNat → Used p f i.toNat ≤ Used p f (i.toNat + j) := fun j => by
    induction j with
    | zero => intro _; exact Int.le_refl _
    | succ j ih =>
      intro hj
      have h1 := ih (by omega)
      have h2 := hf.all ((i.toNat + j : Nat) : Int) (by omega) (by omega)
      have h3 := hp.all ((i.toNat + j : Nat) : Int) (by omega) (by omega)
      unfold Prob.each at h3
      have h4 := Int.mul_nonneg h2.1 (show 0 ≤ p.L ((i.toNat + j : Nat) : Int) + p.kerf by omega)
      have h5 := sumTo_next (fun i => f i * (p.L i + p.kerf)) (i := ((i.toNat + j : Nat) : Int)) (by omega)
      have e : Used p f (i.toNat + (j + 1)) = Used p f (i.toNat + j) + f ((i.toNat + j : Nat) : Int) * (p.L ((i.toNat + j : Nat) : Int) + p.kerf) := by
        unfold Used
        rw [show i.toNat + (j + 1) = (((i.toNat + j : Nat) : Int) + 1).toNat by omega, h5]; rfl
      rw [e]; omega
  have h1 : Used p f (i + 1).toNat = Used p f i.toNat + f i * (p.L i + p.kerf) := sumTo_next _ i0
  have h2 : Used p f (i + 1).toNat ≤ Used p f n.toNat := by
    have h3 : ∀ j : Nat, (i + 1).toNat + j ≤ n.toNat → Used p f (i + 1).toNat ≤ Used p f ((i + 1).toNat + j) := fun j => by
      induction j with
      | zero => intro _; exact Int.le_refl _
      | succ j ih =>
        intro hj
        have h1 := ih (by omega)
        have h2 := hf.all (((i + 1).toNat + j : Nat) : Int) (by omega) (by omega)
        have h3 := hp.all (((i + 1).toNat + j : Nat) : Int) (by omega) (by omega)
        unfold Prob.each at h3
        have h4 := Int.mul_nonneg h2.1 (show 0 ≤ p.L (((i + 1).toNat + j : Nat) : Int) + p.kerf by omega)
        have h5 := sumTo_next (fun i => f i * (p.L i + p.kerf)) (i := (((i + 1).toNat + j : Nat) : Int)) (by omega)
        have e : Used p f ((i + 1).toNat + (j + 1)) = Used p f ((i + 1).toNat + j) + f (((i + 1).toNat + j : Nat) : Int) * (p.L (((i + 1).toNat + j : Nat) : Int) + p.kerf) := by
          unfold Used
          rw [show (i + 1).toNat + (j + 1) = ((((i + 1).toNat + j : Nat) : Int) + 1).toNat by omega, h5]; rfl
        rw [e]; omega
    have h4 := h3 (n.toNat - (i + 1).toNat) (by omega)
    rwa [show (i + 1).toNat + (n.toNat - (i + 1).toNat) = n.toNat by omega] at h4
  have h3 := hf.used
  rw [← hn] at h3
  have h0 := (hf.all i i0 (by omega)).1
  have h4 := Int.mul_nonneg h0 (show 0 ≤ p.L i + p.kerf by omega)
  refine ⟨h0, ?_⟩
  rw [Int.tdiv_eq_ediv_of_nonneg (by omega)]
  exact (Int.le_ediv_iff_mul_le (by omega)).2 (by omega)
theorem free_step {p : Prob} (hp : p.Ok) {i l x : Int} (i0 : 0 ≤ i) (i1 : i < p.m) (l0 : 0 ≤ l) (l1 : l ≤ p.stock + p.kerf) (x0 : 0 ≤ x) (x1 : x ≤ l.tdiv (p.L i + p.kerf)) : 0 ≤ x * (p.L i + p.kerf) ∧ x * (p.L i + p.kerf) ≤ l ∧ x ≤ 2000 := by
  have he := hp.all i i0 i1
  unfold Prob.each at he
  have hk := hp.k1; have hs := hp.s2
  rw [Int.tdiv_eq_ediv_of_nonneg l0] at x1
  have h1 := (Int.le_ediv_iff_mul_le (show 0 < p.L i + p.kerf by omega)).1 x1
  have h2 := Int.mul_nonneg x0 (show 0 ≤ p.L i + p.kerf by omega)
  refine ⟨h2, h1, ?_⟩
  by_cases hx : x ≤ 2000
  · exact hx
  · exfalso
    have h3 := Int.mul_le_mul_of_nonneg_left (show 1 + p.kerf ≤ p.L i + p.kerf by omega) x0
    have h4 := Int.mul_le_mul_of_nonneg_right (show 1 ≤ x by omega) hk
    have h5 : x * (1 + p.kerf) = x + x * p.kerf := by rw [Int.mul_add, Int.mul_one]
    omega

theorem c_size {vL vD : Value} {p : Prob} {i : Int} (w0 : World) (h : PAt w0 vL vD p) (hok : p.Ok) (i0 : 0 ≤ i) (i1 : i < p.m) :
    Calls Try.prog 110 [.agg #[vL, vD, .int .i64 p.stock, .int .i64 p.kerf], .int .i64 i].toArray w0 fun e w => ∃ v, e = .returned v ∧ v = .int .i64 (p.L i + p.kerf) ∧ Sat w0 w [] := by
  have hp := hok; have he := hp.all i i0 i1; unfold Prob.each at he; have hs2 := hp.s2; have hk1 := hp.k1; have hk2 := hp.k2
  refine zenG Try.func110 Try.ntmps110 fun w hS => ?_
  refine zsr ?_
  refine zla (xbx (cs := [_, _, _, _]) hS) ?_; rintro _ w ⟨g1, rfl, hS⟩
  replace hS := hS.n1
  refine zlv xas ?_
  refine zlt <| zsq ?_
  refine zdst [0] [0] 1000 mx_ hS ?_; clear hS; intro w hS
  refine zdv 0 (fun _ => (xfb 0 fd_39_0)) ?_
  refine zdla 1 (fun w hS => (xlb 0 pl_22 hS)) ?_
  refine zdv 2 (fun _ => xmv) ?_
  refine zdv 3 (fun _ => (xix (kk := i) sl_22 h.L.slh)) ?_
  refine zdla 4 (fun w hS => (xlr (u := .int .i64 (p.L i)) pl_3 (h.L.below hS.below))) ?_
  have hbv := h.iL i
  refine zdv 5 (fun _ => (xfb 3 fd_39_3)) ?_
  refine zdla 6 (fun w hS => (xlb 0 pl_3 hS)) ?_
  refine zdv 7 (fun _ => (xadd (r := p.L i + p.kerf))) ?_
  refine zdv 8 (fun _ => xas) ?_
  refine zdd <| ztn <| zrt <| zf1 ⟨_, rfl, ?_⟩
  exact ⟨rfl, hS.nl⟩

set_option maxRecDepth 20000 in
theorem c_free {vL vD : Value} {p : Prob} {vA : Value} {n : Int} {f : Int → Int} (w0 : World) (h : PAt w0 vL vD p) (hA : Row w0 vA 1 n (ints f)) :
    Calls Try.prog 89 [.agg #[vL, vD, .int .i64 p.stock, .int .i64 p.kerf], vA].toArray w0 fun e w => ∃ v, e = .returned v ∧ ∃ (r : Int) (ok : Prop), v = .tuple #[.int .i64 r, B ok] ∧ (ok ↔ FitsP p n f) ∧ Sat w0 w [] := by
  have hm := h.L.slh.n0; have hm1 := h.L.slh.n1; have hd := h.D.slh.n0; have hd1 := h.D.slh.n1; have hs := h.is; have hk := h.ik
  have hn := hA.slh.n0; have hn1 := hA.slh.n1
  refine zenG Try.func89 Try.ntmps89 fun w hS => ?_
  refine zsr ?_
  refine zla (xbx (cs := [_, _, _, _]) hS) ?_; rintro _ w ⟨g1, rfl, hS⟩
  replace hS := hS.n1
  refine zs2 ?_
  refine zlt <| zsq <| zsr ?_
  refine zlv (xls 0 st_39 hS) ?_
  refine zlc (xc0 cl_34) (c_pvalid (p := p) w (h.below hS.below)) ?_; rintro _ w ⟨rfl, hS'⟩
  replace hS := hS.cmp hS'; clear hS'
  refine zs2 ?_
  refine zlb 12 ?_ ?_ <;> intro hc
  ·
   iterate 6 refine zlo ?_
   refine zlv xpt ?_
   refine zlt <| zct <| zsr ?_
   refine zs2 ?_
   refine zlt <| zrt <| ztr <| zf2 ⟨_, rfl, ?_⟩
   exact ⟨_, False, by rw [B_false not_false], ⟨fun hh => hh.elim, fun hf => by
     first
     | exact absurd hf.ok ‹¬ p.Ok›
     | (have := hf.eq; omega)
     | (have h8 := fits_step hf h0 (by omega); rw [← show p.stock + p.kerf - Used p f i.toNat = l by omega] at *; omega)
     | (have h8 := fits_step hf h0 (by omega); omega)⟩, hS.nl⟩
  refine zlv xmv ?_
  refine zlv (xln sl_22 hA.slh) ?_
  refine zlv (xfb 0 fd_39_0) ?_
  refine zlv (xlb 0 pl_22 hS) ?_
  refine zlv (xln sl_22 h.L.slh) ?_
  refine zs2 ?_
  refine zlt ?_
  refine zcif ?_ ?_ <;> intro hc
  ·
   refine zsr ?_
   refine zs2 ?_
   refine zlt <| zrt <| ztr <| zf2 ⟨_, rfl, ?_⟩
   exact ⟨_, False, by rw [B_false not_false], ⟨fun hh => hh.elim, fun hf => by
     first
     | exact absurd hf.ok ‹¬ p.Ok›
     | (have := hf.eq; omega)
     | (have h8 := fits_step hf h0 (by omega); rw [← show p.stock + p.kerf - Used p f i.toNat = l by omega] at *; omega)
     | (have h8 := fits_step hf h0 (by omega); omega)⟩, hS.nl⟩
  refine zsk <| ztn <| zsr ?_
  refine zlv (xfb 2 fd_39_2) ?_
  have hp : p.Ok := by first | assumption | exact Classical.not_not.1 ‹_›
  have hnm : n = p.m := by omega
  have hs1 := hp.s1; have hs2 := hp.s2; have hk1 := hp.k1; have hk2 := hp.k2
  refine zlv (xlb 0 pl_3 hS) ?_
  refine zlv (xfb 3 fd_39_3) ?_
  refine zlv (xlb 0 pl_3 hS) ?_
  refine zlv (xadd (r := p.stock + p.kerf)) ?_
  refine zlv xas ?_
  refine zlt <| zsq <| zsr ?_
  refine zlv xmv ?_
  refine zlv (xln sl_22 hA.slh) ?_
  refine zlv xmv ?_
  refine zlt <| zbk <| zlp (fun mm M w => ∃ (l : Int) (i : Int), mm = ((n - i).toNat) ∧ (0 ≤ i) ∧ (i ≤ n) ∧ (l = p.stock + p.kerf - Used p f i.toNat) ∧ (0 ≤ l) ∧ (l ≤ p.stock + p.kerf) ∧ (∀ k, 0 ≤ k → k < i → 0 ≤ f k ∧ f k ≤ 2000) ∧ M = [(2, .pointer (some ⟨g1, 0, none⟩)), (6, .int .i64 l), (25, vA), (26, .int .i64 n), (27, .int .i64 i)] ∧ Sat w0 w [.blk g1 [vL, vD, .int .i64 p.stock, .int .i64 p.kerf]]) ⟨p.stock + p.kerf, 0, rfl, (by omega), (by omega), ?_, (by omega), (by omega), ?_, rfl, hS⟩ ?_
  ·
   show _ = _ - 0; omega
  ·
   intro k k0 k1; omega
  clear hS w
  rintro mm M w ⟨l, i, rfl, h0, h1, hl, hl0, hl1, hall, rfl, hS⟩
  refine zsr ?_
  refine zlv xlss ?_
  refine zlt <| zsq ?_
  refine zcif ?_ ?_ <;> intro hc
  ·
   refine zsk <| ztn <| zsq <| zbk <| zsr ?_
   refine zlv xmv ?_
   have he := hp.all i h0 (by omega); unfold Prob.each at he
   have hqd := tdiv_abs (a := l) (d := p.L i + p.kerf) (A := 2100) (by omega) (by omega)
   refine zlv (xix (kk := i) sl_22 hA.slh) ?_
   refine zlv (xlr (u := .int .i64 (f i)) pl_3 (hA.below hS.below)) ?_
   refine zs2 ?_
   refine zlt <| zsq <| zsr ?_
   refine zs3 ?_
   refine zlb 34 ?_ ?_ <;> intro hc
   ·
    iterate 7 refine zlo ?_
    refine zlv xpt ?_
    refine zlt <| zct <| zsr ?_
    refine zs2 ?_
    refine zlt <| zrt <| ztr <| zbr <| ztr <| ztr <| zbr <| ztr <| zf2 ⟨_, rfl, ?_⟩
    exact ⟨_, False, by rw [B_false not_false], ⟨fun hh => hh.elim, fun hf => by
      first
      | exact absurd hf.ok ‹¬ p.Ok›
      | (have := hf.eq; omega)
      | (have h8 := fits_step hf h0 (by omega); rw [← show p.stock + p.kerf - Used p f i.toNat = l by omega] at *; omega)
      | (have h8 := fits_step hf h0 (by omega); omega)⟩, hS.nl⟩
   refine zs2 ?_
   refine zlv (xls 0 st_39 hS) ?_
   refine zlv xmv ?_
   refine zlc (xc0 cl_110) (c_size (p := p) (i := i) w (h.below hS.below) hp (by omega) (by omega)) ?_; rintro _ w ⟨rfl, hS'⟩
   replace hS := hS.cmp hS'; clear hS'
   refine zlv (xquo (r := (Int.tdiv l (p.L i + p.kerf)))) ?_
   refine zs2 ?_
   refine zlt ?_
   refine zcif ?_ ?_ <;> intro hc
   ·
    refine zsr ?_
    refine zs2 ?_
    refine zlt <| zrt <| ztr <| zbr <| ztr <| ztr <| zbr <| ztr <| zf2 ⟨_, rfl, ?_⟩
    exact ⟨_, False, by rw [B_false not_false], ⟨fun hh => hh.elim, fun hf => by
      first
      | exact absurd hf.ok ‹¬ p.Ok›
      | (have := hf.eq; omega)
      | (have h8 := fits_step hf h0 (by omega); rw [← show p.stock + p.kerf - Used p f i.toNat = l by omega] at *; omega)
      | (have h8 := fits_step hf h0 (by omega); omega)⟩, hS.nl⟩
   refine zsk <| ztn <| zrg ?_
   refine zlv xmv ?_
   have hst := free_step hp h0 (by omega) hl0 hl1 (x := f i) (by omega) (by omega)
   refine zlv xmv ?_
   refine zlv (xls 0 st_39 hS) ?_
   refine zlv xmv ?_
   refine zlc (xc0 cl_110) (c_size (p := p) (i := i) w (h.below hS.below) hp (by omega) (by omega)) ?_; rintro _ w ⟨rfl, hS'⟩
   replace hS := hS.cmp hS'; clear hS'
   refine zlv (xmul (r := ((f i) * (p.L i + p.kerf))) (e := rfl)) ?_
   refine zlv (xsub (r := l - ((f i) * (p.L i + p.kerf)))) ?_
   refine zlv xas ?_
   refine zln <| zbn <| ztn <| zrg ?_
   refine zlv (xadd (r := i + 1)) ?_
   refine zlv xmv ?_
   refine zln <| zlq ⟨l - ((f i) * (p.L i + p.kerf)), i + 1, rfl, (by omega), (by omega), ?_, (by omega), (by omega), ?_, rfl, hS⟩
   ·
    have h9 : Used p f (i + 1).toNat = Used p f i.toNat + f i * (p.L i + p.kerf) := sumTo_next _ h0
    rw [h9]; omega
   ·
    intro k h0' h1'; rcases Int.lt_or_eq_of_le (show k ≤ i by omega) with hk | hk; exact hall k h0' hk; rw [hk]; omega
  refine zxt <| ztx <| ztx <| zbh <| ztn <| zsr ?_
  refine zs3 ?_
  refine zlt <| zrt <| zf2 ⟨_, rfl, ?_⟩
  exact ⟨_, True, by rw [B_true trivial], ⟨fun _ => ⟨hp, by omega, fun k k0 k1 => (hall k k0 (by omega)), by rw [← hnm, show n = i by omega]; omega⟩, fun _ => trivial⟩, hS.nl⟩

set_option maxRecDepth 20000 in
theorem c_pfits {vL vD : Value} {p : Prob} {vA : Value} {n : Int} {f : Int → Int} (w0 : World) (h : PAt w0 vL vD p) (hA : Row w0 vA 1 n (ints f)) :
    Calls Try.prog 70 [.agg #[vL, vD, .int .i64 p.stock, .int .i64 p.kerf], vA].toArray w0 fun e w => ∃ v, e = .returned v ∧ v = B (FitsP p n f) ∧ Sat w0 w [] := by
  refine zenG Try.func70 Try.ntmps70 fun w hS => ?_
  refine zsr ?_
  refine zla (xbx (cs := [_, _, _, _]) hS) ?_; rintro _ w ⟨g1, rfl, hS⟩
  replace hS := hS.n1
  refine zlv xas ?_
  refine zlz ?_
  refine zlv (xls 0 st_39 hS) ?_
  refine zlv xmv ?_
  refine zlc (xc0 cl_89) (c_free (p := p) w (h.below hS.below) (hA.below hS.below)) ?_; rintro _ w ⟨rr1, okr1, rfl, hfrr1, hS'⟩
  replace hS := hS.cmp hS'; clear hS'
  refine zs5 ?_
  refine zlz ?_
  refine zs2 ?_
  refine zlt <| zrt <| zf1 ⟨_, rfl, ?_⟩
  exact ⟨B_congr hfrr1, hS.nl⟩

set_option maxRecDepth 20000 in
theorem c_pproper {vL vD : Value} {p : Prob} {vA : Value} {n : Int} {f : Int → Int} (w0 : World) (h : PAt w0 vL vD p) (hA : Row w0 vA 1 n (ints f)) :
    Calls Try.prog 37 [.agg #[vL, vD, .int .i64 p.stock, .int .i64 p.kerf], vA].toArray w0 fun e w => ∃ v, e = .returned v ∧ v = B (ProperP p n f) ∧ Sat w0 w [] := by
  have hm := h.L.slh.n0; have hm1 := h.L.slh.n1; have hd := h.D.slh.n0; have hd1 := h.D.slh.n1; have hs := h.is; have hk := h.ik
  have hn := hA.slh.n0; have hn1 := hA.slh.n1
  refine zenG Try.func37 Try.ntmps37 fun w hS => ?_
  refine zsr ?_
  refine zla (xbx (cs := [_, _, _, _]) hS) ?_; rintro _ w ⟨g1, rfl, hS⟩
  replace hS := hS.n1
  refine zlv xas ?_
  refine zlt <| zsq <| zsr ?_
  refine zlv (xls 0 st_39 hS) ?_
  refine zlv xmv ?_
  refine zlc (xc0 cl_70) (c_pfits (p := p) w (h.below hS.below) (hA.below hS.below)) ?_; rintro _ w ⟨rfl, hS'⟩
  replace hS := hS.cmp hS'; clear hS'
  refine zlv xnot ?_
  refine zlt ?_
  refine zcif ?_ ?_ <;> intro hc
  ·
   refine zsr ?_
   refine zlv xas ?_
   refine zlt <| zrt <| ztr <| zf1 ⟨_, rfl, ?_⟩
   exact ⟨false_B (by intro hh; first | exact absurd hh.1 ‹_› | (have := hh.2 i h0 (by omega); omega)), hS.nl⟩
  refine zsk <| ztn <| zsq <| zsr ?_
  refine zlv xmv ?_
  refine zlv (xln sl_22 hA.slh) ?_
  refine zlv xmv ?_
  refine zlt <| zbk ?_
  have hfit : FitsP p n f := by first | assumption | exact Classical.not_not.1 ‹_›
  have hfe := hfit.eq; have hfd := hfit.ok.d
  refine zlp (fun mm M w => ∃ (i : Int), mm = ((n - i).toNat) ∧ (0 ≤ i) ∧ (i ≤ n) ∧ (∀ k, 0 ≤ k → k < i → f k ≤ p.D k) ∧ M = [(2, .pointer (some ⟨g1, 0, none⟩)), (11, vA), (12, .int .i64 n), (13, .int .i64 i)] ∧ Sat w0 w [.blk g1 [vL, vD, .int .i64 p.stock, .int .i64 p.kerf]]) ⟨0, rfl, (by omega), (by omega), ?_, rfl, hS⟩ ?_
  ·
   intro k k0 k1; omega
  clear hS w
  rintro mm M w ⟨i, rfl, h0, h1, hall, rfl, hS⟩
  refine zsr ?_
  refine zlv xlss ?_
  refine zlt <| zsq ?_
  refine zcif ?_ ?_ <;> intro hc
  ·
   refine zsk <| ztn <| zsq <| zbk <| zsr ?_
   refine zlv xmv ?_
   refine zlv (xix (kk := i) sl_22 hA.slh) ?_
   refine zlv (xlr (u := .int .i64 (f i)) pl_3 (hA.below hS.below)) ?_
   refine zs2 ?_
   refine zlz ?_
   refine zlv xmv ?_
   refine zlv (xfb 1 fd_39_1) ?_
   refine zlv (xlb 0 pl_22 hS) ?_
   refine zlv xmv ?_
   refine zlv (xix (kk := i) sl_22 h.D.slh) ?_
   refine zlv (xlr (u := .int .i64 (p.D i)) pl_3 (h.D.below hS.below)) ?_
   have hbv := h.iD i
   refine zlv xgtr ?_
   refine zlt ?_
   refine zcif ?_ ?_ <;> intro hc
   ·
    refine zsr ?_
    refine zlv xas ?_
    refine zlt <| zrt <| zbr <| ztr <| ztr <| zbr <| ztr <| zf1 ⟨_, rfl, ?_⟩
    exact ⟨false_B (by intro hh; first | exact absurd hh.1 ‹_› | (have := hh.2 i h0 (by omega); omega)), hS.nl⟩
   refine zsk <| zbn <| ztn <| zrg ?_
   refine zlv (xadd (r := i + 1)) ?_
   refine zlv xmv ?_
   refine zln <| zlq ⟨i + 1, rfl, (by omega), (by omega), ?_, rfl, hS⟩
   ·
    intro k h0' h1'; rcases Int.lt_or_eq_of_le (show k ≤ i by omega) with hk | hk; exact hall k h0' hk; rw [hk]; omega
  refine zxt <| ztx <| ztx <| zbh <| ztn <| zsr ?_
  refine zlv xas ?_
  refine zlt <| zrt <| zf1 ⟨_, rfl, ?_⟩
  exact ⟨true_B (by exact ⟨hfit, fun k k0 k1 => hall k k0 (by omega)⟩), hS.nl⟩

set_option maxRecDepth 20000 in
theorem c_rproper28 {vL vD : Value} {p : Prob} {vA : Value} {n : Int} {f : Int → Int} (w0 : World) (h : PAt w0 vL vD p) (hA : Row w0 vA 1 n (ints f)) :
    Calls Try.prog 63 [.agg #[vL, vD, .int .i64 p.stock, .int .i64 p.kerf], vA].toArray w0 fun e w => ∃ v, e = .returned v ∧ v = B (ProperP p n f) ∧ Sat w0 w [] := by
  have hm := h.L.slh.n0; have hm1 := h.L.slh.n1; have hd := h.D.slh.n0; have hd1 := h.D.slh.n1; have hs := h.is; have hk := h.ik
  have hn := hA.slh.n0; have hn1 := hA.slh.n1
  refine zenG Try.func63 Try.ntmps63 fun w hS => ?_
  refine zsr ?_
  refine zla (xbx (cs := [_, _, _, _]) hS) ?_; rintro _ w ⟨g1, rfl, hS⟩
  replace hS := hS.n1
  refine zlv xas ?_
  refine zlt <| zsq <| zsr ?_
  refine zlv (xls 0 st_24 hS) ?_
  refine zlv xmv ?_
  refine zlc (xc0 cl_87) (c_fits (p := p) w (h.below hS.below) (hA.below hS.below)) ?_; rintro _ w ⟨rfl, hS'⟩
  replace hS := hS.cmp hS'; clear hS'
  refine zlv xnot ?_
  refine zlt ?_
  refine zcif ?_ ?_ <;> intro hc
  ·
   refine zsr ?_
   refine zlv xas ?_
   refine zlt <| zrt <| ztr <| zf1 ⟨_, rfl, ?_⟩
   exact ⟨false_B (by intro hh; first | exact absurd hh.1 ‹_› | (have := hh.2 i h0 (by omega); omega)), hS.nl⟩
  refine zsk <| ztn <| zsq <| zsr ?_
  refine zlv xas ?_
  refine zlt <| zbk ?_
  have hfit : FitsP p n f := by first | assumption | exact Classical.not_not.1 ‹_›
  have hfe := hfit.eq; have hfd := hfit.ok.d
  refine zlp (fun mm M w => ∃ (i : Int), mm = ((n - i).toNat) ∧ (0 ≤ i) ∧ (i ≤ n) ∧ (∀ k, 0 ≤ k → k < i → f k ≤ p.D k) ∧ M = [(1, vA), (2, .pointer (some ⟨g1, 0, none⟩)), (5, .int .i64 i)] ∧ Sat w0 w [.blk g1 [vL, vD, .int .i64 p.stock, .int .i64 p.kerf]]) ⟨0, rfl, (by omega), (by omega), ?_, rfl, hS⟩ ?_
  ·
   intro k k0 k1; omega
  clear hS w
  rintro mm M w ⟨i, rfl, h0, h1, hall, rfl, hS⟩
  refine zsq <| zsr ?_
  refine zs2 ?_
  refine zlv (xln sl_22 hA.slh) ?_
  refine zlv xlss ?_
  refine zlt ?_
  refine zcif ?_ ?_ <;> intro hc
  ·
   refine zsk <| ztn <| zsq <| zbk <| zsq ?_
   refine zdst [0] [0] 1000 mx_ hS ?_; clear hS; intro w hS
   refine zdv 0 (fun _ => xmv) ?_
   refine zdv 1 (fun _ => xmv) ?_
   refine zdv 2 (fun _ => (xix (kk := i) sl_22 hA.slh)) ?_
   refine zdla 3 (fun w hS => (xlr (u := .int .i64 (f i)) pl_3 (hA.below hS.below))) ?_
   refine zdv 4 (fun _ => (xfb 1 fd_24_1)) ?_
   refine zdla 5 (fun w hS => (xlb 0 pl_22 hS)) ?_
   refine zdv 6 (fun _ => xmv) ?_
   refine zdv 7 (fun _ => (xix (kk := i) sl_22 h.D.slh)) ?_
   refine zdla 8 (fun w hS => (xlr (u := .int .i64 (p.D i)) pl_3 (h.D.below hS.below))) ?_
   have hbv := h.iD i
   refine zdv 9 (fun _ => xgtr) ?_
   refine zdd <| ztn ?_
   refine zcif ?_ ?_ <;> intro hc
   ·
    refine zsr ?_
    refine zlv xas ?_
    refine zlt <| zrt <| zbr <| ztr <| ztr <| zbr <| ztr <| zf1 ⟨_, rfl, ?_⟩
    exact ⟨false_B (by intro hh; first | exact absurd hh.1 ‹_› | (have := hh.2 i h0 (by omega); omega)), hS.nl⟩
   refine zsk <| zbn <| ztn <| zrg ?_
   refine zlv xmv ?_
   refine zlv (xadd (r := i + 1)) ?_
   refine zlv xas ?_
   refine zln <| zlq ⟨i + 1, rfl, (by omega), (by omega), ?_, rfl, hS⟩
   ·
    intro k h0' h1'; rcases Int.lt_or_eq_of_le (show k ≤ i by omega) with hk | hk; exact hall k h0' hk; rw [hk]; omega
  refine zxt <| ztx <| ztx <| zbh <| ztn <| zsr ?_
  refine zlv xas ?_
  refine zlt <| zrt <| zf1 ⟨_, rfl, ?_⟩
  exact ⟨true_B (by exact ⟨hfit, fun k k0 k1 => hall k k0 (by omega)⟩), hS.nl⟩

end Go.Proofs.Ytopmifmfecfaaaa
