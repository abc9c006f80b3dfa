/- The walks of layer 28: Valid, Fits, Proper, plans. -/
import Derived.Test.YtopmifmfecfaaaaGreatGv
import Derived.Test.YtopmifmfecfaaaaGreatW36
import Derived.Test.YtopmifmfecfaaaaGreatFs
import Derived.Test.YtopmifmfecfaaaaGreatFd
namespace Go.Proofs.YtopmifmfecfaaaaGreat
open Go Go.RowKit Go.Proofs.Gw
set_option linter.unusedVariables false

theorem cl_144 : calledT Tryz.prog 144 = true := by kernel_rfl
theorem cl_165 : calledT Tryz.prog 165 = true := by kernel_rfl
theorem cl_182 : calledT Tryz.prog 182 = true := by kernel_rfl
theorem cl_25 : calledT Tryz.prog 25 = true := by kernel_rfl
theorem cl_47 : calledT Tryz.prog 47 = true := by kernel_rfl
theorem cl_57 : calledT Tryz.prog 57 = true := by kernel_rfl
theorem cl_73 : calledT Tryz.prog 73 = true := by kernel_rfl
theorem fd_24_0 : fieldT Tryz.prog 24 0 = some 0 := by kernel_rfl
theorem fd_24_1 : fieldT Tryz.prog 24 1 = some 1 := by kernel_rfl
theorem fd_24_2 : fieldT Tryz.prog 24 2 = some 2 := by kernel_rfl
theorem fd_24_3 : fieldT Tryz.prog 24 3 = some 3 := by kernel_rfl
theorem fd_35_0 : fieldT Tryz.prog 35 0 = some 0 := by kernel_rfl
theorem fd_35_1 : fieldT Tryz.prog 35 1 = some 1 := by kernel_rfl
theorem fd_35_2 : fieldT Tryz.prog 35 2 = some 2 := by kernel_rfl
theorem fd_35_3 : fieldT Tryz.prog 35 3 = some 3 := by kernel_rfl
theorem st_24 : structT Tryz.prog 24 = some 4 := by kernel_rfl
theorem st_35 : structT Tryz.prog 35 = some 4 := by kernel_rfl
set_option maxRecDepth 20000 in
theorem c_pvalid {vL vD : Value} {p : Prob} (w0 : World) (h : PAt w0 vL vD p) :
    Calls Tryz.prog 47 [.agg #[vL, vD, .int .i64 p.stock, .int .i64 p.kerf]].toArray w0 fun e w => ∃ v, e = .returned v ∧ v = B p.Ok ∧ Sat w0 w [] := by
  have hm := h.L.slh.n0; have hm1 := h.L.slh.n1; have hd := h.D.slh.n0; have hs := h.is; have hk := h.ik
  refine zenG Tryz.func47 Tryz.ntmps47 fun w hS => ?_
  refine zsr ?_
  refine zla (xbx (cs := [_, _, _, _]) hS) ?_; rintro _ w ⟨g1, rfl, hS⟩
  replace hS := hS.n1
  refine zlv xas ?_
  refine zlt <| zsq <| zsr ?_
  refine zlv (xfb 0 fd_35_0) ?_
  refine zlv (xlb 0 pl_22 hS) ?_
  refine zlv (xln sl_22 h.L.slh) ?_
  refine zs2 ?_
  refine zlb 9 ?_ ?_ <;> intro hc
  ·
   iterate 4 refine zlo ?_
   refine zs2 ?_
   iterate 7 refine zlo ?_
   refine zs2 ?_
   iterate 3 refine zlo ?_
   refine zs2 ?_
   iterate 3 refine zlo ?_
   refine zs2 ?_
   iterate 3 refine zlo ?_
   refine zs2 ?_
   iterate 3 refine zlo ?_
   refine zlv xpt ?_
   refine zlt <| zct <| zsr ?_
   refine zlv xas ?_
   refine zlt <| zrt <| ztr <| zf1 ⟨_, rfl, ?_⟩
   first
   | exact ⟨false_B (by intro hk; have h1 := hk.m1; have h2 := hk.m2; have h3 := hk.d; have h4 := hk.s1; have h5 := hk.s2; have h6 := hk.k1; have h7 := hk.k2; omega), hS.nl⟩
   | exact ⟨false_B (by intro hk; have := hk.all i (by omega) (by omega); unfold Prob.each at this; omega), hS.nl⟩
  refine zlv (xfb 0 fd_35_0) ?_
  refine zlv (xlb 0 pl_22 hS) ?_
  refine zlv (xln sl_22 h.L.slh) ?_
  refine zs3 ?_
  refine zlb 15 ?_ ?_ <;> intro hc
  ·
   iterate 7 refine zlo ?_
   refine zs2 ?_
   iterate 3 refine zlo ?_
   refine zs2 ?_
   iterate 3 refine zlo ?_
   refine zs2 ?_
   iterate 3 refine zlo ?_
   refine zs2 ?_
   iterate 3 refine zlo ?_
   refine zlv xpt ?_
   refine zlt <| zct <| zsr ?_
   refine zlv xas ?_
   refine zlt <| zrt <| ztr <| zf1 ⟨_, rfl, ?_⟩
   first
   | exact ⟨false_B (by intro hk; have h1 := hk.m1; have h2 := hk.m2; have h3 := hk.d; have h4 := hk.s1; have h5 := hk.s2; have h6 := hk.k1; have h7 := hk.k2; omega), hS.nl⟩
   | exact ⟨false_B (by intro hk; have := hk.all i (by omega) (by omega); unfold Prob.each at this; omega), hS.nl⟩
  refine zlv (xfb 1 fd_35_1) ?_
  refine zlv (xlb 0 pl_22 hS) ?_
  refine zlv (xln sl_22 h.D.slh) ?_
  refine zlv (xfb 0 fd_35_0) ?_
  refine zlv (xlb 0 pl_22 hS) ?_
  refine zlv (xln sl_22 h.L.slh) ?_
  refine zs3 ?_
  refine zlb 24 ?_ ?_ <;> intro hc
  ·
   iterate 3 refine zlo ?_
   refine zs2 ?_
   iterate 3 refine zlo ?_
   refine zs2 ?_
   iterate 3 refine zlo ?_
   refine zs2 ?_
   iterate 3 refine zlo ?_
   refine zlv xpt ?_
   refine zlt <| zct <| zsr ?_
   refine zlv xas ?_
   refine zlt <| zrt <| ztr <| zf1 ⟨_, rfl, ?_⟩
   first
   | exact ⟨false_B (by intro hk; have h1 := hk.m1; have h2 := hk.m2; have h3 := hk.d; have h4 := hk.s1; have h5 := hk.s2; have h6 := hk.k1; have h7 := hk.k2; omega), hS.nl⟩
   | exact ⟨false_B (by intro hk; have := hk.all i (by omega) (by omega); unfold Prob.each at this; omega), hS.nl⟩
  refine zlv (xfb 2 fd_35_2) ?_
  refine zlv (xlb 0 pl_3 hS) ?_
  refine zs3 ?_
  refine zlb 29 ?_ ?_ <;> intro hc
  ·
   iterate 3 refine zlo ?_
   refine zs2 ?_
   iterate 3 refine zlo ?_
   refine zs2 ?_
   iterate 3 refine zlo ?_
   refine zlv xpt ?_
   refine zlt <| zct <| zsr ?_
   refine zlv xas ?_
   refine zlt <| zrt <| ztr <| zf1 ⟨_, rfl, ?_⟩
   first
   | exact ⟨false_B (by intro hk; have h1 := hk.m1; have h2 := hk.m2; have h3 := hk.d; have h4 := hk.s1; have h5 := hk.s2; have h6 := hk.k1; have h7 := hk.k2; omega), hS.nl⟩
   | exact ⟨false_B (by intro hk; have := hk.all i (by omega) (by omega); unfold Prob.each at this; omega), hS.nl⟩
  refine zlv (xfb 2 fd_35_2) ?_
  refine zlv (xlb 0 pl_3 hS) ?_
  refine zs3 ?_
  refine zlb 34 ?_ ?_ <;> intro hc
  ·
   iterate 3 refine zlo ?_
   refine zs2 ?_
   iterate 3 refine zlo ?_
   refine zlv xpt ?_
   refine zlt <| zct <| zsr ?_
   refine zlv xas ?_
   refine zlt <| zrt <| ztr <| zf1 ⟨_, rfl, ?_⟩
   first
   | exact ⟨false_B (by intro hk; have h1 := hk.m1; have h2 := hk.m2; have h3 := hk.d; have h4 := hk.s1; have h5 := hk.s2; have h6 := hk.k1; have h7 := hk.k2; omega), hS.nl⟩
   | exact ⟨false_B (by intro hk; have := hk.all i (by omega) (by omega); unfold Prob.each at this; omega), hS.nl⟩
  refine zlv (xfb 3 fd_35_3) ?_
  refine zlv (xlb 0 pl_3 hS) ?_
  refine zs3 ?_
  refine zlb 39 ?_ ?_ <;> intro hc
  ·
   iterate 3 refine zlo ?_
   refine zlv xpt ?_
   refine zlt <| zct <| zsr ?_
   refine zlv xas ?_
   refine zlt <| zrt <| ztr <| zf1 ⟨_, rfl, ?_⟩
   first
   | exact ⟨false_B (by intro hk; have h1 := hk.m1; have h2 := hk.m2; have h3 := hk.d; have h4 := hk.s1; have h5 := hk.s2; have h6 := hk.k1; have h7 := hk.k2; omega), hS.nl⟩
   | exact ⟨false_B (by intro hk; have := hk.all i (by omega) (by omega); unfold Prob.each at this; omega), hS.nl⟩
  refine zlv (xfb 3 fd_35_3) ?_
  refine zlv (xlb 0 pl_3 hS) ?_
  refine zs2 ?_
  refine zlt ?_
  refine zcif ?_ ?_ <;> intro hc
  ·
   refine zsr ?_
   refine zlv xas ?_
   refine zlt <| zrt <| ztr <| zf1 ⟨_, rfl, ?_⟩
   first
   | exact ⟨false_B (by intro hk; have h1 := hk.m1; have h2 := hk.m2; have h3 := hk.d; have h4 := hk.s1; have h5 := hk.s2; have h6 := hk.k1; have h7 := hk.k2; omega), hS.nl⟩
   | exact ⟨false_B (by intro hk; have := hk.all i (by omega) (by omega); unfold Prob.each at this; omega), hS.nl⟩
  refine zsk <| ztn <| zsq <| zsr ?_
  refine zlv (xfb 0 fd_35_0) ?_
  refine zlv (xlb 0 pl_22 hS) ?_
  refine zlv (xln sl_22 h.L.slh) ?_
  refine zlv xmv ?_
  refine zlt <| zbk <| zlp (fun mm M w => ∃ (i : Int), mm = ((p.m - i).toNat) ∧ (0 ≤ i) ∧ (i ≤ p.m) ∧ (∀ k, 0 ≤ k → k < i → p.each k) ∧ M = [(1, .pointer (some ⟨g1, 0, none⟩)), (45, vL), (46, .int .i64 p.m), (47, .int .i64 i)] ∧ Sat w0 w [.blk g1 [vL, vD, .int .i64 p.stock, .int .i64 p.kerf]]) ⟨0, rfl, (by omega), (by omega), ?_, rfl, hS⟩ ?_
  ·
   intro k h0 h1; omega
  clear hS w
  rintro mm M w ⟨i, rfl, h0, h1, hall, rfl, hS⟩
  refine zsr ?_
  refine zlv xlss ?_
  refine zlt <| zsq ?_
  refine zcif ?_ ?_ <;> intro hc
  ·
   refine zsk <| ztn <| zsq <| zbk <| zsr ?_
   refine zlv xmv ?_
   refine zlv (xix (kk := i) sl_22 h.L.slh) ?_
   refine zlv (xlr (u := .int .i64 (p.L i)) pl_3 (h.L.below hS.below)) ?_
   have hbv := h.iL i
   refine zs2 ?_
   refine zlz ?_
   refine zs3 ?_
   refine zlb 54 ?_ ?_ <;> intro hc
   ·
    iterate 4 refine zlo ?_
    refine zs2 ?_
    iterate 12 refine zlo ?_
    refine zs2 ?_
    iterate 6 refine zlo ?_
    refine zs2 ?_
    iterate 6 refine zlo ?_
    refine zlv xpt ?_
    refine zlt <| zct <| zsr ?_
    refine zlv xas ?_
    refine zlt <| zrt <| zbr <| ztr <| ztr <| zbr <| ztr <| zf1 ⟨_, rfl, ?_⟩
    first
    | exact ⟨false_B (by intro hk; have h1 := hk.m1; have h2 := hk.m2; have h3 := hk.d; have h4 := hk.s1; have h5 := hk.s2; have h6 := hk.k1; have h7 := hk.k2; omega), hS.nl⟩
    | exact ⟨false_B (by intro hk; have := hk.all i (by omega) (by omega); unfold Prob.each at this; omega), hS.nl⟩
   refine zlv xmv ?_
   refine zlv (xfb 2 fd_35_2) ?_
   refine zlv (xlb 0 pl_3 hS) ?_
   refine zs3 ?_
   refine zlb 60 ?_ ?_ <;> intro hc
   ·
    iterate 12 refine zlo ?_
    refine zs2 ?_
    iterate 6 refine zlo ?_
    refine zs2 ?_
    iterate 6 refine zlo ?_
    refine zlv xpt ?_
    refine zlt <| zct <| zsr ?_
    refine zlv xas ?_
    refine zlt <| zrt <| zbr <| ztr <| ztr <| zbr <| ztr <| zf1 ⟨_, rfl, ?_⟩
    first
    | exact ⟨false_B (by intro hk; have h1 := hk.m1; have h2 := hk.m2; have h3 := hk.d; have h4 := hk.s1; have h5 := hk.s2; have h6 := hk.k1; have h7 := hk.k2; omega), hS.nl⟩
    | exact ⟨false_B (by intro hk; have := hk.all i (by omega) (by omega); unfold Prob.each at this; omega), hS.nl⟩
   refine zs3 ?_
   refine zlb 63 ?_ ?_ <;> intro hc
   ·
    refine zlv xmv ?_
    refine zlv (xfb 0 fd_35_0) ?_
    refine zlv (xlb 0 pl_22 hS) ?_
    refine zlv xmv ?_
    refine zlv (xsub (r := i - 1)) ?_
    refine zlv (xix (kk := i - 1) sl_22 h.L.slh) ?_
    refine zlv (xlr (u := .int .i64 (p.L (i - 1))) pl_3 (h.L.below hS.below)) ?_
    have hbv := h.iL (i - 1)
    refine zs4 ?_
    refine zlb 74 ?_ ?_ <;> intro hc
    ·
     iterate 6 refine zlo ?_
     refine zs2 ?_
     iterate 6 refine zlo ?_
     refine zlv xpt ?_
     refine zlt <| zct <| zsr ?_
     refine zlv xas ?_
     refine zlt <| zrt <| zbr <| ztr <| ztr <| zbr <| ztr <| zf1 ⟨_, rfl, ?_⟩
     first
     | exact ⟨false_B (by intro hk; have h1 := hk.m1; have h2 := hk.m2; have h3 := hk.d; have h4 := hk.s1; have h5 := hk.s2; have h6 := hk.k1; have h7 := hk.k2; omega), hS.nl⟩
     | exact ⟨false_B (by intro hk; have := hk.all i (by omega) (by omega); unfold Prob.each at this; omega), hS.nl⟩
    refine zlv (xfb 1 fd_35_1) ?_
    refine zlv (xlb 0 pl_22 hS) ?_
    refine zlv xmv ?_
    refine zlv (xix (kk := i) sl_22 h.D.slh) ?_
    refine zlv (xlr (u := .int .i64 (p.D i)) pl_3 (h.D.below hS.below)) ?_
    have hbv := h.iD i
    refine zs3 ?_
    refine zlb 82 ?_ ?_ <;> intro hc
    ·
     iterate 6 refine zlo ?_
     refine zlv xpt ?_
     refine zlt <| zct <| zsr ?_
     refine zlv xas ?_
     refine zlt <| zrt <| zbr <| ztr <| ztr <| zbr <| ztr <| zf1 ⟨_, rfl, ?_⟩
     first
     | exact ⟨false_B (by intro hk; have h1 := hk.m1; have h2 := hk.m2; have h3 := hk.d; have h4 := hk.s1; have h5 := hk.s2; have h6 := hk.k1; have h7 := hk.k2; omega), hS.nl⟩
     | exact ⟨false_B (by intro hk; have := hk.all i (by omega) (by omega); unfold Prob.each at this; omega), hS.nl⟩
    refine zlv (xfb 1 fd_35_1) ?_
    refine zlv (xlb 0 pl_22 hS) ?_
    refine zlv xmv ?_
    refine zlv (xix (kk := i) sl_22 h.D.slh) ?_
    refine zlv (xlr (u := .int .i64 (p.D i)) pl_3 (h.D.below hS.below)) ?_
    have hbv := h.iD i
    refine zs2 ?_
    refine zlt ?_
    refine zcif ?_ ?_ <;> intro hc
    ·
     refine zsr ?_
     refine zlv xas ?_
     refine zlt <| zrt <| zbr <| ztr <| ztr <| zbr <| ztr <| zf1 ⟨_, rfl, ?_⟩
     first
     | exact ⟨false_B (by intro hk; have h1 := hk.m1; have h2 := hk.m2; have h3 := hk.d; have h4 := hk.s1; have h5 := hk.s2; have h6 := hk.k1; have h7 := hk.k2; omega), hS.nl⟩
     | exact ⟨false_B (by intro hk; have := hk.all i (by omega) (by omega); unfold Prob.each at this; omega), hS.nl⟩
    refine zsk <| zbn <| ztn <| zrg ?_
    refine zlv (xadd (r := i + 1)) ?_
    refine zlv xmv ?_
    refine zln <| zlq ⟨i + 1, rfl, (by omega), (by omega), ?_, rfl, hS⟩
    ·
     intro k h0' h1'; rcases Int.lt_or_eq_of_le (show k ≤ i by omega) with hk | hk; exact hall k h0' hk; rw [hk]; unfold Prob.each; omega
   iterate 8 refine zlo ?_
   refine zs3 ?_
   refine zlv (xfb 1 fd_35_1) ?_
   refine zlv (xlb 0 pl_22 hS) ?_
   refine zlv xmv ?_
   refine zlv (xix (kk := i) sl_22 h.D.slh) ?_
   refine zlv (xlr (u := .int .i64 (p.D i)) pl_3 (h.D.below hS.below)) ?_
   have hbv := h.iD i
   refine zs3 ?_
   refine zlb 82 ?_ ?_ <;> intro hc
   ·
    iterate 6 refine zlo ?_
    refine zlv xpt ?_
    refine zlt <| zct <| zsr ?_
    refine zlv xas ?_
    refine zlt <| zrt <| zbr <| ztr <| ztr <| zbr <| ztr <| zf1 ⟨_, rfl, ?_⟩
    first
    | exact ⟨false_B (by intro hk; have h1 := hk.m1; have h2 := hk.m2; have h3 := hk.d; have h4 := hk.s1; have h5 := hk.s2; have h6 := hk.k1; have h7 := hk.k2; omega), hS.nl⟩
    | exact ⟨false_B (by intro hk; have := hk.all i (by omega) (by omega); unfold Prob.each at this; omega), hS.nl⟩
   refine zlv (xfb 1 fd_35_1) ?_
   refine zlv (xlb 0 pl_22 hS) ?_
   refine zlv xmv ?_
   refine zlv (xix (kk := i) sl_22 h.D.slh) ?_
   refine zlv (xlr (u := .int .i64 (p.D i)) pl_3 (h.D.below hS.below)) ?_
   have hbv := h.iD i
   refine zs2 ?_
   refine zlt ?_
   refine zcif ?_ ?_ <;> intro hc
   ·
    refine zsr ?_
    refine zlv xas ?_
    refine zlt <| zrt <| zbr <| ztr <| ztr <| zbr <| ztr <| zf1 ⟨_, rfl, ?_⟩
    first
    | exact ⟨false_B (by intro hk; have h1 := hk.m1; have h2 := hk.m2; have h3 := hk.d; have h4 := hk.s1; have h5 := hk.s2; have h6 := hk.k1; have h7 := hk.k2; omega), hS.nl⟩
    | exact ⟨false_B (by intro hk; have := hk.all i (by omega) (by omega); unfold Prob.each at this; omega), hS.nl⟩
   refine zsk <| zbn <| ztn <| zrg ?_
   refine zlv (xadd (r := i + 1)) ?_
   refine zlv xmv ?_
   refine zln <| zlq ⟨i + 1, rfl, (by omega), (by omega), ?_, rfl, hS⟩
   ·
    intro k h0' h1'; rcases Int.lt_or_eq_of_le (show k ≤ i by omega) with hk | hk; exact hall k h0' hk; rw [hk]; unfold Prob.each; omega
  refine zxt <| ztx <| ztx <| zbh <| ztn <| zsr ?_
  refine zlv xas ?_
  refine zlt <| zrt <| zf1 ⟨_, rfl, ?_⟩
  exact ⟨true_B ⟨by omega, by omega, by omega, by omega, by omega, by omega, by omega, fun k h0 h1 => hall k h0 (by omega)⟩, hS.nl⟩

set_option maxRecDepth 20000 in
theorem c_rvalid28 {vL vD : Value} {p : Prob} (w0 : World) (h : PAt w0 vL vD p) :
    Calls Tryz.prog 25 [.agg #[vL, vD, .int .i64 p.stock, .int .i64 p.kerf]].toArray w0 fun e w => ∃ v, e = .returned v ∧ v = B p.Ok ∧ Sat w0 w [] := by
  have hm := h.L.slh.n0; have hm1 := h.L.slh.n1; have hd := h.D.slh.n0; have hs := h.is; have hk := h.ik
  refine zenG Tryz.func25 Tryz.ntmps25 fun w hS => ?_
  refine zsr ?_
  refine zla (xbx (cs := [_, _, _, _]) hS) ?_; rintro _ w ⟨g1, rfl, hS⟩
  replace hS := hS.n1
  refine zlv xas ?_
  refine zlz ?_
  refine zlv (xfb 0 fd_24_0) ?_
  refine zlv (xlb 0 pl_22 hS) ?_
  refine zlv (xln sl_22 h.L.slh) ?_
  refine zlv xas ?_
  refine zlt <| zsq <| zsr ?_
  refine zs3 ?_
  refine zlb 10 ?_ ?_ <;> intro hc
  ·
   iterate 2 refine zlo ?_
   refine zs2 ?_
   iterate 5 refine zlo ?_
   refine zs2 ?_
   iterate 3 refine zlo ?_
   refine zs2 ?_
   iterate 3 refine zlo ?_
   refine zs2 ?_
   iterate 3 refine zlo ?_
   refine zs2 ?_
   iterate 3 refine zlo ?_
   refine zlv xpt ?_
   refine zlt <| zct <| zsr ?_
   refine zlv xas ?_
   refine zlt <| zrt <| ztr <| zf1 ⟨_, rfl, ?_⟩
   first
   | exact ⟨false_B (by intro hk; have h1 := hk.m1; have h2 := hk.m2; have h3 := hk.d; have h4 := hk.s1; have h5 := hk.s2; have h6 := hk.k1; have h7 := hk.k2; omega), hS.nl⟩
   | exact ⟨false_B (by intro hk; have := hk.all i (by omega) (by omega); unfold Prob.each at this; omega), hS.nl⟩
  refine zs4 ?_
  refine zlb 14 ?_ ?_ <;> intro hc
  ·
   iterate 5 refine zlo ?_
   refine zs2 ?_
   iterate 3 refine zlo ?_
   refine zs2 ?_
   iterate 3 refine zlo ?_
   refine zs2 ?_
   iterate 3 refine zlo ?_
   refine zs2 ?_
   iterate 3 refine zlo ?_
   refine zlv xpt ?_
   refine zlt <| zct <| zsr ?_
   refine zlv xas ?_
   refine zlt <| zrt <| ztr <| zf1 ⟨_, rfl, ?_⟩
   first
   | exact ⟨false_B (by intro hk; have h1 := hk.m1; have h2 := hk.m2; have h3 := hk.d; have h4 := hk.s1; have h5 := hk.s2; have h6 := hk.k1; have h7 := hk.k2; omega), hS.nl⟩
   | exact ⟨false_B (by intro hk; have := hk.all i (by omega) (by omega); unfold Prob.each at this; omega), hS.nl⟩
  refine zlv (xfb 1 fd_24_1) ?_
  refine zlv (xlb 0 pl_22 hS) ?_
  refine zlv (xln sl_22 h.D.slh) ?_
  refine zs4 ?_
  refine zlb 21 ?_ ?_ <;> intro hc
  ·
   iterate 3 refine zlo ?_
   refine zs2 ?_
   iterate 3 refine zlo ?_
   refine zs2 ?_
   iterate 3 refine zlo ?_
   refine zs2 ?_
   iterate 3 refine zlo ?_
   refine zlv xpt ?_
   refine zlt <| zct <| zsr ?_
   refine zlv xas ?_
   refine zlt <| zrt <| ztr <| zf1 ⟨_, rfl, ?_⟩
   first
   | exact ⟨false_B (by intro hk; have h1 := hk.m1; have h2 := hk.m2; have h3 := hk.d; have h4 := hk.s1; have h5 := hk.s2; have h6 := hk.k1; have h7 := hk.k2; omega), hS.nl⟩
   | exact ⟨false_B (by intro hk; have := hk.all i (by omega) (by omega); unfold Prob.each at this; omega), hS.nl⟩
  refine zlv (xfb 2 fd_24_2) ?_
  refine zlv (xlb 0 pl_3 hS) ?_
  refine zs3 ?_
  refine zlb 26 ?_ ?_ <;> intro hc
  ·
   iterate 3 refine zlo ?_
   refine zs2 ?_
   iterate 3 refine zlo ?_
   refine zs2 ?_
   iterate 3 refine zlo ?_
   refine zlv xpt ?_
   refine zlt <| zct <| zsr ?_
   refine zlv xas ?_
   refine zlt <| zrt <| ztr <| zf1 ⟨_, rfl, ?_⟩
   first
   | exact ⟨false_B (by intro hk; have h1 := hk.m1; have h2 := hk.m2; have h3 := hk.d; have h4 := hk.s1; have h5 := hk.s2; have h6 := hk.k1; have h7 := hk.k2; omega), hS.nl⟩
   | exact ⟨false_B (by intro hk; have := hk.all i (by omega) (by omega); unfold Prob.each at this; omega), hS.nl⟩
  refine zlv (xfb 2 fd_24_2) ?_
  refine zlv (xlb 0 pl_3 hS) ?_
  refine zs3 ?_
  refine zlb 31 ?_ ?_ <;> intro hc
  ·
   iterate 3 refine zlo ?_
   refine zs2 ?_
   iterate 3 refine zlo ?_
   refine zlv xpt ?_
   refine zlt <| zct <| zsr ?_
   refine zlv xas ?_
   refine zlt <| zrt <| ztr <| zf1 ⟨_, rfl, ?_⟩
   first
   | exact ⟨false_B (by intro hk; have h1 := hk.m1; have h2 := hk.m2; have h3 := hk.d; have h4 := hk.s1; have h5 := hk.s2; have h6 := hk.k1; have h7 := hk.k2; omega), hS.nl⟩
   | exact ⟨false_B (by intro hk; have := hk.all i (by omega) (by omega); unfold Prob.each at this; omega), hS.nl⟩
  refine zlv (xfb 3 fd_24_3) ?_
  refine zlv (xlb 0 pl_3 hS) ?_
  refine zs3 ?_
  refine zlb 36 ?_ ?_ <;> intro hc
  ·
   iterate 3 refine zlo ?_
   refine zlv xpt ?_
   refine zlt <| zct <| zsr ?_
   refine zlv xas ?_
   refine zlt <| zrt <| ztr <| zf1 ⟨_, rfl, ?_⟩
   first
   | exact ⟨false_B (by intro hk; have h1 := hk.m1; have h2 := hk.m2; have h3 := hk.d; have h4 := hk.s1; have h5 := hk.s2; have h6 := hk.k1; have h7 := hk.k2; omega), hS.nl⟩
   | exact ⟨false_B (by intro hk; have := hk.all i (by omega) (by omega); unfold Prob.each at this; omega), hS.nl⟩
  refine zlv (xfb 3 fd_24_3) ?_
  refine zlv (xlb 0 pl_3 hS) ?_
  refine zs2 ?_
  refine zlt ?_
  refine zcif ?_ ?_ <;> intro hc
  ·
   refine zsr ?_
   refine zlv xas ?_
   refine zlt <| zrt <| ztr <| zf1 ⟨_, rfl, ?_⟩
   first
   | exact ⟨false_B (by intro hk; have h1 := hk.m1; have h2 := hk.m2; have h3 := hk.d; have h4 := hk.s1; have h5 := hk.s2; have h6 := hk.k1; have h7 := hk.k2; omega), hS.nl⟩
   | exact ⟨false_B (by intro hk; have := hk.all i (by omega) (by omega); unfold Prob.each at this; omega), hS.nl⟩
  refine zsk <| ztn <| zsq <| zsr ?_
  refine zlv xas ?_
  refine zlt <| zbk <| zlp (fun mm M w => ∃ (i : Int), mm = ((p.m - i).toNat) ∧ (0 ≤ i) ∧ (i ≤ p.m) ∧ (∀ k, 0 ≤ k → k < i → p.each k) ∧ M = [(1, .pointer (some ⟨g1, 0, none⟩)), (3, .int .i64 p.m), (4, .int .i64 i)] ∧ Sat w0 w [.blk g1 [vL, vD, .int .i64 p.stock, .int .i64 p.kerf]]) ⟨0, rfl, (by omega), (by omega), ?_, rfl, hS⟩ ?_
  ·
   intro k h0 h1; omega
  clear hS w
  rintro mm M w ⟨i, rfl, h0, h1, hall, rfl, hS⟩
  refine zsq <| zsr ?_
  refine zs3 ?_
  refine zlt ?_
  refine zcif ?_ ?_ <;> intro hc
  ·
   refine zsk <| ztn <| zsq <| zbk <| zsq ?_
   refine zdst [0] [0] 1000 mx_ hS ?_; clear hS; intro w hS
   refine zdv 0 (fun _ => (xfb 0 fd_24_0)) ?_
   refine zdla 1 (fun w hS => (xlb 0 pl_22 hS)) ?_
   refine zdv 2 (fun _ => xmv) ?_
   refine zdv 3 (fun _ => (xix (kk := i) sl_22 h.L.slh)) ?_
   refine zdla 4 (fun w hS => (xlr (u := .int .i64 (p.L i)) pl_3 (h.L.below hS.below))) ?_
   have hbv := h.iL i
   refine zdv 5 (fun _ => xlss) ?_
   refine zdv 6 (fun _ => xmv) ?_
   refine zdb 52 ?_ ?_ <;> intro hc
   ·
    refine zdof 7 ?_
    refine zdof 8 ?_
    refine zdof 9 ?_
    refine zdof 10 ?_
    refine zdof 11 ?_
    refine zdof 12 ?_
    refine zdof 13 ?_
    refine zdof 14 ?_
    refine zdv 15 (fun _ => xpt) ?_
    refine zdv 16 (fun _ => xmv) ?_
    refine zdof 17 ?_
    refine zdof 18 ?_
    refine zdof 19 ?_
    refine zdof 20 ?_
    refine zdof 21 ?_
    refine zdof 22 ?_
    refine zdof 23 ?_
    refine zdof 24 ?_
    refine zdof 25 ?_
    refine zdof 26 ?_
    refine zdof 27 ?_
    refine zdof 28 ?_
    refine zdof 29 ?_
    refine zdof 30 ?_
    refine zdof 31 ?_
    refine zdof 32 ?_
    refine zdv 33 (fun _ => xpt) ?_
    refine zdv 34 (fun _ => xmv) ?_
    refine zdof 35 ?_
    refine zdof 36 ?_
    refine zdof 37 ?_
    refine zdof 38 ?_
    refine zdof 39 ?_
    refine zdof 40 ?_
    refine zdv 41 (fun _ => xpt) ?_
    refine zdv 42 (fun _ => xmv) ?_
    refine zdof 43 ?_
    refine zdof 44 ?_
    refine zdof 45 ?_
    refine zdof 46 ?_
    refine zdof 47 ?_
    refine zdof 48 ?_
    refine zdv 49 (fun _ => xpt) ?_
    refine zdd <| ztn <| zct <| zsr ?_
    refine zlv xas ?_
    refine zlt <| zrt <| zbr <| ztr <| ztr <| zbr <| ztr <| zf1 ⟨_, rfl, ?_⟩
    first
    | exact ⟨false_B (by intro hk; have h1 := hk.m1; have h2 := hk.m2; have h3 := hk.d; have h4 := hk.s1; have h5 := hk.s2; have h6 := hk.k1; have h7 := hk.k2; omega), hS.nl⟩
    | exact ⟨false_B (by intro hk; have := hk.all i (by omega) (by omega); unfold Prob.each at this; omega), hS.nl⟩
   refine zdv 7 (fun _ => (xfb 0 fd_24_0)) ?_
   refine zdla 8 (fun w hS => (xlb 0 pl_22 hS)) ?_
   refine zdv 9 (fun _ => xmv) ?_
   refine zdv 10 (fun _ => (xix (kk := i) sl_22 h.L.slh)) ?_
   refine zdla 11 (fun w hS => (xlr (u := .int .i64 (p.L i)) pl_3 (h.L.below hS.below))) ?_
   have hbv := h.iL i
   refine zdv 12 (fun _ => (xfb 2 fd_24_2)) ?_
   refine zdla 13 (fun w hS => (xlb 0 pl_3 hS)) ?_
   refine zdv 14 (fun _ => xgtr) ?_
   refine zdv 15 (fun _ => xpf) ?_
   refine zdv 16 (fun _ => xmv) ?_
   refine zdb 62 ?_ ?_ <;> intro hc
   ·
    refine zdof 17 ?_
    refine zdof 18 ?_
    refine zdof 19 ?_
    refine zdof 20 ?_
    refine zdof 21 ?_
    refine zdof 22 ?_
    refine zdof 23 ?_
    refine zdof 24 ?_
    refine zdof 25 ?_
    refine zdof 26 ?_
    refine zdof 27 ?_
    refine zdof 28 ?_
    refine zdof 29 ?_
    refine zdof 30 ?_
    refine zdof 31 ?_
    refine zdof 32 ?_
    refine zdv 33 (fun _ => xpt) ?_
    refine zdv 34 (fun _ => xmv) ?_
    refine zdof 35 ?_
    refine zdof 36 ?_
    refine zdof 37 ?_
    refine zdof 38 ?_
    refine zdof 39 ?_
    refine zdof 40 ?_
    refine zdv 41 (fun _ => xpt) ?_
    refine zdv 42 (fun _ => xmv) ?_
    refine zdof 43 ?_
    refine zdof 44 ?_
    refine zdof 45 ?_
    refine zdof 46 ?_
    refine zdof 47 ?_
    refine zdof 48 ?_
    refine zdv 49 (fun _ => xpt) ?_
    refine zdd <| ztn <| zct <| zsr ?_
    refine zlv xas ?_
    refine zlt <| zrt <| zbr <| ztr <| ztr <| zbr <| ztr <| zf1 ⟨_, rfl, ?_⟩
    first
    | exact ⟨false_B (by intro hk; have h1 := hk.m1; have h2 := hk.m2; have h3 := hk.d; have h4 := hk.s1; have h5 := hk.s2; have h6 := hk.k1; have h7 := hk.k2; omega), hS.nl⟩
    | exact ⟨false_B (by intro hk; have := hk.all i (by omega) (by omega); unfold Prob.each at this; omega), hS.nl⟩
   refine zdv 17 (fun _ => xmv) ?_
   refine zdv 18 (fun _ => xgtr) ?_
   refine zdv 19 (fun _ => xmv) ?_
   refine zdb 65 ?_ ?_ <;> intro hc
   ·
    refine zdv 20 (fun _ => (xfb 0 fd_24_0)) ?_
    refine zdla 21 (fun w hS => (xlb 0 pl_22 hS)) ?_
    refine zdv 22 (fun _ => xmv) ?_
    refine zdv 23 (fun _ => (xix (kk := i) sl_22 h.L.slh)) ?_
    refine zdla 24 (fun w hS => (xlr (u := .int .i64 (p.L i)) pl_3 (h.L.below hS.below))) ?_
    have hbv := h.iL i
    refine zdv 25 (fun _ => (xfb 0 fd_24_0)) ?_
    refine zdla 26 (fun w hS => (xlb 0 pl_22 hS)) ?_
    refine zdv 27 (fun _ => xmv) ?_
    refine zdv 28 (fun _ => (xsub (r := i - 1))) ?_
    refine zdv 29 (fun _ => (xix (kk := i - 1) sl_22 h.L.slh)) ?_
    refine zdla 30 (fun w hS => (xlr (u := .int .i64 (p.L (i - 1))) pl_3 (h.L.below hS.below))) ?_
    have hbv := h.iL (i - 1)
    refine zdv 31 (fun _ => xgeq) ?_
    refine zdv 32 (fun _ => xpt) ?_
    refine zdv 33 (fun _ => xpf) ?_
    refine zdv 34 (fun _ => xmv) ?_
    refine zdb 80 ?_ ?_ <;> intro hc
    ·
     refine zdof 35 ?_
     refine zdof 36 ?_
     refine zdof 37 ?_
     refine zdof 38 ?_
     refine zdof 39 ?_
     refine zdof 40 ?_
     refine zdv 41 (fun _ => xpt) ?_
     refine zdv 42 (fun _ => xmv) ?_
     refine zdof 43 ?_
     refine zdof 44 ?_
     refine zdof 45 ?_
     refine zdof 46 ?_
     refine zdof 47 ?_
     refine zdof 48 ?_
     refine zdv 49 (fun _ => xpt) ?_
     refine zdd <| ztn <| zct <| zsr ?_
     refine zlv xas ?_
     refine zlt <| zrt <| zbr <| ztr <| ztr <| zbr <| ztr <| zf1 ⟨_, rfl, ?_⟩
     first
     | exact ⟨false_B (by intro hk; have h1 := hk.m1; have h2 := hk.m2; have h3 := hk.d; have h4 := hk.s1; have h5 := hk.s2; have h6 := hk.k1; have h7 := hk.k2; omega), hS.nl⟩
     | exact ⟨false_B (by intro hk; have := hk.all i (by omega) (by omega); unfold Prob.each at this; omega), hS.nl⟩
    refine zdv 35 (fun _ => (xfb 1 fd_24_1)) ?_
    refine zdla 36 (fun w hS => (xlb 0 pl_22 hS)) ?_
    refine zdv 37 (fun _ => xmv) ?_
    refine zdv 38 (fun _ => (xix (kk := i) sl_22 h.D.slh)) ?_
    refine zdla 39 (fun w hS => (xlr (u := .int .i64 (p.D i)) pl_3 (h.D.below hS.below))) ?_
    have hbv := h.iD i
    refine zdv 40 (fun _ => xlss) ?_
    refine zdv 41 (fun _ => xpf) ?_
    refine zdv 42 (fun _ => xmv) ?_
    refine zdb 88 ?_ ?_ <;> intro hc
    ·
     refine zdof 43 ?_
     refine zdof 44 ?_
     refine zdof 45 ?_
     refine zdof 46 ?_
     refine zdof 47 ?_
     refine zdof 48 ?_
     refine zdv 49 (fun _ => xpt) ?_
     refine zdd <| ztn <| zct <| zsr ?_
     refine zlv xas ?_
     refine zlt <| zrt <| zbr <| ztr <| ztr <| zbr <| ztr <| zf1 ⟨_, rfl, ?_⟩
     first
     | exact ⟨false_B (by intro hk; have h1 := hk.m1; have h2 := hk.m2; have h3 := hk.d; have h4 := hk.s1; have h5 := hk.s2; have h6 := hk.k1; have h7 := hk.k2; omega), hS.nl⟩
     | exact ⟨false_B (by intro hk; have := hk.all i (by omega) (by omega); unfold Prob.each at this; omega), hS.nl⟩
    refine zdv 43 (fun _ => (xfb 1 fd_24_1)) ?_
    refine zdla 44 (fun w hS => (xlb 0 pl_22 hS)) ?_
    refine zdv 45 (fun _ => xmv) ?_
    refine zdv 46 (fun _ => (xix (kk := i) sl_22 h.D.slh)) ?_
    refine zdla 47 (fun w hS => (xlr (u := .int .i64 (p.D i)) pl_3 (h.D.below hS.below))) ?_
    have hbv := h.iD i
    refine zdv 48 (fun _ => xgtr) ?_
    refine zdv 49 (fun _ => xpf) ?_
    refine zdd <| ztn ?_
    refine zcif ?_ ?_ <;> intro hc
    ·
     refine zsr ?_
     refine zlv xas ?_
     refine zlt <| zrt <| zbr <| ztr <| ztr <| zbr <| ztr <| zf1 ⟨_, rfl, ?_⟩
     first
     | exact ⟨false_B (by intro hk; have h1 := hk.m1; have h2 := hk.m2; have h3 := hk.d; have h4 := hk.s1; have h5 := hk.s2; have h6 := hk.k1; have h7 := hk.k2; omega), hS.nl⟩
     | exact ⟨false_B (by intro hk; have := hk.all i (by omega) (by omega); unfold Prob.each at this; omega), hS.nl⟩
    refine zsk <| zbn <| ztn <| zrg ?_
    refine zlv xmv ?_
    refine zlv (xadd (r := i + 1)) ?_
    refine zlv xas ?_
    refine zln <| zlq ⟨i + 1, rfl, (by omega), (by omega), ?_, rfl, hS⟩
    ·
     intro k h0' h1'; rcases Int.lt_or_eq_of_le (show k ≤ i by omega) with hk | hk; exact hall k h0' hk; rw [hk]; unfold Prob.each; omega
   refine zdof 20 ?_
   refine zdof 21 ?_
   refine zdof 22 ?_
   refine zdof 23 ?_
   refine zdof 24 ?_
   refine zdof 25 ?_
   refine zdof 26 ?_
   refine zdof 27 ?_
   refine zdof 28 ?_
   refine zdof 29 ?_
   refine zdof 30 ?_
   refine zdof 31 ?_
   refine zdv 32 (fun _ => xpf) ?_
   refine zdv 33 (fun _ => xpf) ?_
   refine zdv 34 (fun _ => xmv) ?_
   refine zdv 35 (fun _ => (xfb 1 fd_24_1)) ?_
   refine zdla 36 (fun w hS => (xlb 0 pl_22 hS)) ?_
   refine zdv 37 (fun _ => xmv) ?_
   refine zdv 38 (fun _ => (xix (kk := i) sl_22 h.D.slh)) ?_
   refine zdla 39 (fun w hS => (xlr (u := .int .i64 (p.D i)) pl_3 (h.D.below hS.below))) ?_
   have hbv := h.iD i
   refine zdv 40 (fun _ => xlss) ?_
   refine zdv 41 (fun _ => xpf) ?_
   refine zdv 42 (fun _ => xmv) ?_
   refine zdb 88 ?_ ?_ <;> intro hc
   ·
    refine zdof 43 ?_
    refine zdof 44 ?_
    refine zdof 45 ?_
    refine zdof 46 ?_
    refine zdof 47 ?_
    refine zdof 48 ?_
    refine zdv 49 (fun _ => xpt) ?_
    refine zdd <| ztn <| zct <| zsr ?_
    refine zlv xas ?_
    refine zlt <| zrt <| zbr <| ztr <| ztr <| zbr <| ztr <| zf1 ⟨_, rfl, ?_⟩
    first
    | exact ⟨false_B (by intro hk; have h1 := hk.m1; have h2 := hk.m2; have h3 := hk.d; have h4 := hk.s1; have h5 := hk.s2; have h6 := hk.k1; have h7 := hk.k2; omega), hS.nl⟩
    | exact ⟨false_B (by intro hk; have := hk.all i (by omega) (by omega); unfold Prob.each at this; omega), hS.nl⟩
   refine zdv 43 (fun _ => (xfb 1 fd_24_1)) ?_
   refine zdla 44 (fun w hS => (xlb 0 pl_22 hS)) ?_
   refine zdv 45 (fun _ => xmv) ?_
   refine zdv 46 (fun _ => (xix (kk := i) sl_22 h.D.slh)) ?_
   refine zdla 47 (fun w hS => (xlr (u := .int .i64 (p.D i)) pl_3 (h.D.below hS.below))) ?_
   have hbv := h.iD i
   refine zdv 48 (fun _ => xgtr) ?_
   refine zdv 49 (fun _ => xpf) ?_
   refine zdd <| ztn ?_
   refine zcif ?_ ?_ <;> intro hc
   ·
    refine zsr ?_
    refine zlv xas ?_
    refine zlt <| zrt <| zbr <| ztr <| ztr <| zbr <| ztr <| zf1 ⟨_, rfl, ?_⟩
    first
    | exact ⟨false_B (by intro hk; have h1 := hk.m1; have h2 := hk.m2; have h3 := hk.d; have h4 := hk.s1; have h5 := hk.s2; have h6 := hk.k1; have h7 := hk.k2; omega), hS.nl⟩
    | exact ⟨false_B (by intro hk; have := hk.all i (by omega) (by omega); unfold Prob.each at this; omega), hS.nl⟩
   refine zsk <| zbn <| ztn <| zrg ?_
   refine zlv xmv ?_
   refine zlv (xadd (r := i + 1)) ?_
   refine zlv xas ?_
   refine zln <| zlq ⟨i + 1, rfl, (by omega), (by omega), ?_, rfl, hS⟩
   ·
    intro k h0' h1'; rcases Int.lt_or_eq_of_le (show k ≤ i by omega) with hk | hk; exact hall k h0' hk; rw [hk]; unfold Prob.each; omega
  refine zxt <| ztx <| ztx <| zbh <| ztn <| zsr ?_
  refine zlv xas ?_
  refine zlt <| zrt <| zf1 ⟨_, rfl, ?_⟩
  exact ⟨true_B ⟨by omega, by omega, by omega, by omega, by omega, by omega, by omega, fun k h0 h1 => hall k h0 (by omega)⟩, hS.nl⟩

set_option maxRecDepth 20000 in
theorem c_few28 {vL vD : Value} {p : Prob} (w0 : World) (h : PAt w0 vL vD p) :
    Calls Tryz.prog 10 [.agg #[vL, vD, .int .i64 p.stock, .int .i64 p.kerf]].toArray w0 fun e w => ∃ v, e = .returned v ∧ v = B (Few28 p) ∧ Sat w0 w [] := by
  have hm := h.L.slh.n0; have hm1 := h.L.slh.n1; have hd := h.D.slh.n0; have hd1 := h.D.slh.n1; have hs := h.is; have hk := h.ik
  refine zenG Tryz.func10 Tryz.ntmps10 fun w hS => ?_
  refine zsr ?_
  refine zla (xbx (cs := [_, _, _, _]) hS) ?_; rintro _ w ⟨g1, rfl, hS⟩
  replace hS := hS.n1
  refine zlv xas ?_
  refine zlt <| zsq <| zsr ?_
  refine zlv (xfb 0 fd_24_0) ?_
  refine zlv (xlb 0 pl_22 hS) ?_
  refine zlv (xln sl_22 h.L.slh) ?_
  refine zs2 ?_
  refine zlb 8 ?_ ?_ <;> intro hc
  ·
   iterate 4 refine zlo ?_
   refine zlv xpt ?_
   refine zlt <| zct <| zsr ?_
   refine zlv xas ?_
   refine zlt <| zrt <| ztr <| zf1 ⟨_, rfl, ?_⟩
   exact ⟨false_B (by rintro ⟨h2, h3, h4⟩; first | omega | (have h5 := (h4 (Classical.not_not.1 ‹¬ ¬ (p.Ok)›)).1 i (by omega) (by omega); omega) | (have h5 := (h4 (Classical.not_not.1 ‹¬ ¬ (p.Ok)›)).2; omega)), hS.nl⟩
  refine zlv (xfb 1 fd_24_1) ?_
  refine zlv (xlb 0 pl_22 hS) ?_
  refine zlv (xln sl_22 h.D.slh) ?_
  refine zs2 ?_
  refine zlt ?_
  refine zcif ?_ ?_ <;> intro hc
  ·
   refine zsr ?_
   refine zlv xas ?_
   refine zlt <| zrt <| ztr <| zf1 ⟨_, rfl, ?_⟩
   exact ⟨false_B (by rintro ⟨h2, h3, h4⟩; first | omega | (have h5 := (h4 (Classical.not_not.1 ‹¬ ¬ (p.Ok)›)).1 i (by omega) (by omega); omega) | (have h5 := (h4 (Classical.not_not.1 ‹¬ ¬ (p.Ok)›)).2; omega)), hS.nl⟩
  refine zsk <| ztn <| zsq <| zsr ?_
  refine zlv (xls 0 st_24 hS) ?_
  refine zlc (xc0 cl_25) (c_rvalid28 (p := p) w (h.below hS.below)) ?_; rintro _ w ⟨rfl, hS'⟩
  replace hS := hS.cmp hS'; clear hS'
  refine zlv xnot ?_
  refine zlt ?_
  refine zcif ?_ ?_ <;> intro hc
  ·
   refine zsr ?_
   refine zlv xas ?_
   refine zlt <| zrt <| ztr <| zf1 ⟨_, rfl, ?_⟩
   exact ⟨true_B (by first | exact ⟨by omega, by omega, fun hk => absurd hk ‹¬ p.Ok›⟩), hS.nl⟩
  refine zsk <| ztn <| zsq <| zsr ?_
  refine zlv xas ?_
  refine zlt <| zbk <| zlp (fun mm M w => ∃ (i : Int), mm = ((p.d - i).toNat) ∧ (0 ≤ i) ∧ (i ≤ p.d) ∧ (∀ k, 0 ≤ k → k < i → p.D k ≤ 30) ∧ M = [(1, .pointer (some ⟨g1, 0, none⟩)), (3, .int .i64 i)] ∧ Sat w0 w [.blk g1 [vL, vD, .int .i64 p.stock, .int .i64 p.kerf]]) ⟨0, rfl, (by omega), (by omega), ?_, rfl, hS⟩ ?_
  ·
   intro k h0 h1; omega
  clear hS w
  rintro mm M w ⟨i, rfl, h0, h1, hall, rfl, hS⟩
  refine zsq <| zsr ?_
  refine zlv xmv ?_
  refine zlv (xfb 1 fd_24_1) ?_
  refine zlv (xlb 0 pl_22 hS) ?_
  refine zlv (xln sl_22 h.D.slh) ?_
  refine zlv xlss ?_
  refine zlt ?_
  refine zcif ?_ ?_ <;> intro hc
  ·
   refine zsk <| ztn <| zsq <| zbk <| zsr ?_
   refine zlv (xfb 1 fd_24_1) ?_
   refine zlv (xlb 0 pl_22 hS) ?_
   refine zlv xmv ?_
   refine zlv (xix (kk := i) sl_22 h.D.slh) ?_
   refine zlv (xlr (u := .int .i64 (p.D i)) pl_3 (h.D.below hS.below)) ?_
   have hbv := h.iD i
   refine zlv xgtr ?_
   refine zlt ?_
   refine zcif ?_ ?_ <;> intro hc
   ·
    refine zsr ?_
    refine zlv xas ?_
    refine zlt <| zrt <| zbr <| ztr <| ztr <| zbr <| ztr <| zf1 ⟨_, rfl, ?_⟩
    exact ⟨false_B (by rintro ⟨h2, h3, h4⟩; first | omega | (have h5 := (h4 (Classical.not_not.1 ‹¬ ¬ (p.Ok)›)).1 i (by omega) (by omega); omega) | (have h5 := (h4 (Classical.not_not.1 ‹¬ ¬ (p.Ok)›)).2; omega)), hS.nl⟩
   refine zsk <| zbn <| ztn <| zrg ?_
   refine zlv xmv ?_
   refine zlv (xadd (r := i + 1)) ?_
   refine zlv xas ?_
   refine zln <| zlq ⟨i + 1, rfl, (by omega), (by omega), ?_, rfl, hS⟩
   ·
    intro k h0' h1'; rcases Int.lt_or_eq_of_le (show k ≤ i by omega) with hk | hk; exact hall k h0' hk; rw [hk]; omega
  refine zxt <| ztx <| ztx <| zbh <| ztn <| zsq ?_
  refine zdst [0] [0] 1000 mx_ hS ?_; clear hS; intro w hS
  refine zdv 0 (fun _ => (xfb 0 fd_24_0)) ?_
  have hp := (Classical.not_not.1 ‹¬ ¬ (p.Ok)›); have hm2 := hp.m1; have hL := (hp.all (p.m - 1) (by omega) (by omega)); unfold Prob.each at hL; have hs2 := hp.s2
  refine zdla 1 (fun w hS => (xlb 0 pl_22 hS)) ?_
  refine zdv 2 (fun _ => (xln sl_22 h.L.slh)) ?_
  refine zdv 3 (fun _ => xleq) ?_
  refine zdv 4 (fun _ => xmv) ?_
  refine zdb 34 ?_ ?_ <;> intro hc
  ·
   refine zdv 5 (fun _ => (xfb 2 fd_24_2)) ?_
   refine zdla 6 (fun w hS => (xlb 0 pl_3 hS)) ?_
   refine zdv 7 (fun _ => (xfb 0 fd_24_0)) ?_
   refine zdla 8 (fun w hS => (xlb 0 pl_22 hS)) ?_
   refine zdv 9 (fun _ => (xfb 0 fd_24_0)) ?_
   refine zdla 10 (fun w hS => (xlb 0 pl_22 hS)) ?_
   refine zdv 11 (fun _ => (xln sl_22 h.L.slh)) ?_
   refine zdv 12 (fun _ => (xsub (r := p.m - 1))) ?_
   refine zdv 13 (fun _ => (xix (kk := p.m - 1) sl_22 h.L.slh)) ?_
   refine zdla 14 (fun w hS => (xlr (u := .int .i64 (p.L (p.m - 1))) pl_3 (h.L.below hS.below))) ?_
   have hbv := h.iL (p.m - 1)
   refine zdv 15 (fun _ => (xmul (r := 12 * p.L (p.m - 1)))) ?_
   refine zdv 16 (fun _ => xleq) ?_
   refine zdv 17 (fun _ => xpt) ?_
   refine zdv 18 (fun _ => xas) ?_
   refine zdd <| ztn <| zrt <| zf1 ⟨_, rfl, ?_⟩
   exact ⟨B_congr (by constructor; exact fun h5 => ⟨by omega, by omega, fun _ => ⟨fun k h6 h7 => hall k h6 (by omega), by omega, by omega⟩⟩; rintro ⟨h2, h3, h4⟩; have h5 := (h4 (Classical.not_not.1 ‹¬ ¬ (p.Ok)›)).2.2; omega), hS.nl⟩
  refine zdof 5 ?_
  refine zdof 6 ?_
  refine zdof 7 ?_
  refine zdof 8 ?_
  refine zdof 9 ?_
  refine zdof 10 ?_
  refine zdof 11 ?_
  refine zdof 12 ?_
  refine zdof 13 ?_
  refine zdof 14 ?_
  refine zdof 15 ?_
  refine zdof 16 ?_
  refine zdv 17 (fun _ => xpf) ?_
  refine zdv 18 (fun _ => xas) ?_
  refine zdd <| ztn <| zrt <| zf1 ⟨_, rfl, ?_⟩
  exact ⟨false_B (by rintro ⟨h2, h3, h4⟩; first | omega | (have h5 := (h4 (Classical.not_not.1 ‹¬ ¬ (p.Ok)›)).1 i (by omega) (by omega); omega) | (have h5 := (h4 (Classical.not_not.1 ‹¬ ¬ (p.Ok)›)).2; omega)), hS.nl⟩

set_option maxRecDepth 20000 in
theorem c_used {vL vD : Value} {p : Prob} {vA : Value} {n : Int} {f : Int → Int} (w0 : World) (h : PAt w0 vL vD p) (hp : p.Ok) (hA : Row w0 vA 1 n (ints f)) (hn : n = p.m) (ha : ∀ i, 0 ≤ i → i < p.m → 0 ≤ f i ∧ f i ≤ 2000) :
    Calls Tryz.prog 57 [.agg #[vL, vD, .int .i64 p.stock, .int .i64 p.kerf], vA].toArray w0 fun e w => ∃ v, e = .returned v ∧ v = .int .i64 (Used p f p.m.toNat) ∧ Sat w0 w [] := by
  subst hn; have hm := hp.m1; have hm2 := hp.m2
  refine zenG Tryz.func57 Tryz.ntmps57 fun w hS => ?_
  refine zsr ?_
  refine zla (xbx (cs := [_, _, _, _]) hS) ?_; rintro _ w ⟨g1, rfl, hS⟩
  replace hS := hS.n1
  refine zlv xas ?_
  refine zlz ?_
  refine zlv xas ?_
  refine zlt <| zsq <| zsr ?_
  refine zlv xas ?_
  refine zlt <| zbk <| zlp (fun mm M w => ∃ (s : Int) (i : Int), mm = ((p.m - i).toNat) ∧ (0 ≤ i) ∧ (i ≤ p.m) ∧ (s = Used p f i.toNat) ∧ M = [(1, vA), (2, .pointer (some ⟨g1, 0, none⟩)), (4, .int .i64 0), (5, .int .i64 s), (6, .int .i64 i)] ∧ Sat w0 w [.blk g1 [vL, vD, .int .i64 p.stock, .int .i64 p.kerf]]) ⟨0, 0, rfl, (by omega), (by omega), ?_, rfl, hS⟩ ?_
  ·
   rfl
  clear hS w
  rintro mm M w ⟨s, i, rfl, h0, h1, hs, rfl, hS⟩
  refine zsq <| zsr ?_
  refine zlv xmv ?_
  refine zlv (xfb 0 fd_24_0) ?_
  refine zlv (xlb 0 pl_22 hS) ?_
  refine zlv (xln sl_22 h.L.slh) ?_
  refine zlv xlss ?_
  refine zlt ?_
  refine zcif ?_ ?_ <;> intro hc
  ·
   refine zsk <| ztn <| zsq <| zbk ?_
   refine zdst [0] [0] 1000 mx_ hS ?_; clear hS; intro w hS
   refine zdv 0 (fun _ => xmv) ?_
   have he := hp.all i (by omega) (by omega); unfold Prob.each at he; have hai := ha i (by omega) (by omega); have hk1 := hp.k1; have hk2 := hp.k2; have hs2 := hp.s2; have ht := used_term hp h0 (by omega : i < p.m) hai; have hb := used_bound hp ha h0 (by omega : i ≤ p.m); have hb2 := used_bound hp ha (by omega : 0 ≤ i + 1) (by omega : i + 1 ≤ p.m)
   refine zdv 1 (fun _ => xmv) ?_
   refine zdv 2 (fun _ => xmv) ?_
   refine zdv 3 (fun _ => (xix (kk := i) sl_22 hA.slh)) ?_
   refine zdla 4 (fun w hS => (xlr (u := .int .i64 (f i)) pl_3 (hA.below hS.below))) ?_
   refine zdv 5 (fun _ => (xfb 0 fd_24_0)) ?_
   refine zdla 6 (fun w hS => (xlb 0 pl_22 hS)) ?_
   refine zdv 7 (fun _ => xmv) ?_
   refine zdv 8 (fun _ => (xix (kk := i) sl_22 h.L.slh)) ?_
   refine zdla 9 (fun w hS => (xlr (u := .int .i64 (p.L i)) pl_3 (h.L.below hS.below))) ?_
   have hbv := h.iL i
   refine zdv 10 (fun _ => (xfb 3 fd_24_3)) ?_
   refine zdla 11 (fun w hS => (xlb 0 pl_3 hS)) ?_
   refine zdv 12 (fun _ => (xadd (r := p.L i + p.kerf))) ?_
   refine zdv 13 (fun _ => (xmul (r := ((f i) * (p.L i + p.kerf))) (e := rfl) (hr := (by unfold I64; omega)))) ?_
   refine zdv 14 (fun _ => (xadd (r := s + ((f i) * (p.L i + p.kerf))) (hr := (by unfold I64; omega)))) ?_
   refine zdv 15 (fun _ => xas) ?_
   refine zdd <| zbn <| ztn <| zrg ?_
   refine zlv xmv ?_
   refine zlv (xadd (r := i + 1)) ?_
   refine zlv xas ?_
   refine zln <| zlq ⟨s + ((f i) * (p.L i + p.kerf)), i + 1, rfl, (by omega), (by omega), ?_, rfl, hS⟩
   ·
    rw [hs]; exact (sumTo_next _ h0).symm
  refine zxt <| ztx <| ztx <| zbh <| ztn <| zsr ?_
  refine zs2 ?_
  refine zlt <| zrt <| zf1 ⟨_, rfl, ?_⟩
  obtain rfl : i = p.m := by omega
  exact ⟨congrArg (Value.int .i64) hs, hS.nl⟩

set_option maxRecDepth 20000 in
theorem c_fits {vL vD : Value} {p : Prob} {vA : Value} {n : Int} {f : Int → Int} (w0 : World) (h : PAt w0 vL vD p) (hA : Row w0 vA 1 n (ints f)) :
    Calls Tryz.prog 73 [.agg #[vL, vD, .int .i64 p.stock, .int .i64 p.kerf], vA].toArray w0 fun e w => ∃ v, e = .returned v ∧ v = B (FitsP p n f) ∧ Sat w0 w [] := by
  have hm := h.L.slh.n0; have hm1 := h.L.slh.n1; have hd := h.D.slh.n0; have hs := h.is; have hk := h.ik; have hn := hA.slh.n0; have hn1 := hA.slh.n1
  refine zenG Tryz.func73 Tryz.ntmps73 fun w hS => ?_
  refine zsr ?_
  refine zla (xbx (cs := [_, _, _, _]) hS) ?_; rintro _ w ⟨g1, rfl, hS⟩
  replace hS := hS.n1
  refine zlv xas ?_
  refine zlt <| zsq <| zsr ?_
  refine zlv (xls 0 st_24 hS) ?_
  refine zlc (xc0 cl_25) (c_rvalid28 (p := p) w (h.below hS.below)) ?_; rintro _ w ⟨rfl, hS'⟩
  replace hS := hS.cmp hS'; clear hS'
  refine zs2 ?_
  refine zlb 9 ?_ ?_ <;> intro hc
  ·
   iterate 6 refine zlo ?_
   refine zlv xpt ?_
   refine zlt <| zct <| zsr ?_
   refine zlv xas ?_
   refine zlt <| zrt <| ztr <| zf1 ⟨_, rfl, ?_⟩
   first
   | exact ⟨false_B (by intro hk; exact absurd hk.ok ‹¬ p.Ok›), hS.nl⟩
   | exact ⟨false_B (by intro hk; have := hk.eq; omega), hS.nl⟩
   | exact ⟨false_B (by intro hk; have := hk.all i (by omega) (by have := hk.eq; omega); omega), hS.nl⟩
  refine zlv xmv ?_
  refine zlv (xln sl_22 hA.slh) ?_
  refine zlv (xfb 0 fd_24_0) ?_
  refine zlv (xlb 0 pl_22 hS) ?_
  refine zlv (xln sl_22 h.L.slh) ?_
  refine zs2 ?_
  refine zlt ?_
  refine zcif ?_ ?_ <;> intro hc
  ·
   refine zsr ?_
   refine zlv xas ?_
   refine zlt <| zrt <| ztr <| zf1 ⟨_, rfl, ?_⟩
   first
   | exact ⟨false_B (by intro hk; exact absurd hk.ok ‹¬ p.Ok›), hS.nl⟩
   | exact ⟨false_B (by intro hk; have := hk.eq; omega), hS.nl⟩
   | exact ⟨false_B (by intro hk; have := hk.all i (by omega) (by have := hk.eq; omega); omega), hS.nl⟩
  refine zsk <| ztn <| zsq <| zsr ?_
  refine zlv xas ?_
  refine zlt <| zbk <| zlp (fun mm M w => ∃ (i : Int), mm = ((n - i).toNat) ∧ (0 ≤ i) ∧ (i ≤ n) ∧ (∀ k, 0 ≤ k → k < i → 0 ≤ f k ∧ f k ≤ 2000) ∧ M = [(1, vA), (2, .pointer (some ⟨g1, 0, none⟩)), (5, .int .i64 i)] ∧ Sat w0 w [.blk g1 [vL, vD, .int .i64 p.stock, .int .i64 p.kerf]]) ⟨0, rfl, (by omega), (by omega), ?_, rfl, hS⟩ ?_
  ·
   intro k h0 h1; omega
  clear hS w
  rintro mm M w ⟨i, rfl, h0, h1, hall, rfl, hS⟩
  refine zsq <| zsr ?_
  refine zs2 ?_
  refine zlv (xln sl_22 hA.slh) ?_
  refine zlv xlss ?_
  refine zlt ?_
  refine zcif ?_ ?_ <;> intro hc
  ·
   refine zsk <| ztn <| zsq <| zbk <| zsr ?_
   refine zs2 ?_
   refine zlv (xix (kk := i) sl_22 hA.slh) ?_
   refine zlv (xlr (u := .int .i64 (f i)) pl_3 (hA.below hS.below)) ?_
   refine zs2 ?_
   refine zlb 28 ?_ ?_ <;> intro hc
   ·
    iterate 5 refine zlo ?_
    refine zlv xpt ?_
    refine zlt <| zct <| zsr ?_
    refine zlv xas ?_
    refine zlt <| zrt <| zbr <| ztr <| ztr <| zbr <| ztr <| zf1 ⟨_, rfl, ?_⟩
    first
    | exact ⟨false_B (by intro hk; exact absurd hk.ok ‹¬ p.Ok›), hS.nl⟩
    | exact ⟨false_B (by intro hk; have := hk.eq; omega), hS.nl⟩
    | exact ⟨false_B (by intro hk; have := hk.all i (by omega) (by have := hk.eq; omega); omega), hS.nl⟩
   refine zs2 ?_
   refine zlv (xix (kk := i) sl_22 hA.slh) ?_
   refine zlv (xlr (u := .int .i64 (f i)) pl_3 (hA.below hS.below)) ?_
   refine zs2 ?_
   refine zlt ?_
   refine zcif ?_ ?_ <;> intro hc
   ·
    refine zsr ?_
    refine zlv xas ?_
    refine zlt <| zrt <| zbr <| ztr <| ztr <| zbr <| ztr <| zf1 ⟨_, rfl, ?_⟩
    first
    | exact ⟨false_B (by intro hk; exact absurd hk.ok ‹¬ p.Ok›), hS.nl⟩
    | exact ⟨false_B (by intro hk; have := hk.eq; omega), hS.nl⟩
    | exact ⟨false_B (by intro hk; have := hk.all i (by omega) (by have := hk.eq; omega); omega), hS.nl⟩
   refine zsk <| zbn <| ztn <| zrg ?_
   refine zlv xmv ?_
   refine zlv (xadd (r := i + 1)) ?_
   refine zlv xas ?_
   refine zln <| zlq ⟨i + 1, rfl, (by omega), (by omega), ?_, rfl, hS⟩
   ·
    intro k h0' h1'; rcases Int.lt_or_eq_of_le (show k ≤ i by omega) with hk | hk; exact hall k h0' hk; rw [hk]; omega
  refine zxt <| ztx <| ztx <| zbh <| ztn <| zsq ?_
  refine zdst [0] [0] 1000 mx_ hS ?_; clear hS; intro w hS
  refine zdla 0 (fun w hS => (xls 0 st_24 hS)) ?_
  have hp := (Classical.not_not.1 ‹¬ ¬ (p.Ok)›); have hs1 := hp.s1; have hs2 := hp.s2; have hk1 := hp.k1; have hk2 := hp.k2
  refine zdv 1 (fun _ => xmv) ?_
  refine zdv 3 (fun _ => (xfb 2 fd_24_2)) ?_
  refine zdla 4 (fun w hS => (xlb 0 pl_3 hS)) ?_
  refine zdv 5 (fun _ => (xfb 3 fd_24_3)) ?_
  refine zdla 6 (fun w hS => (xlb 0 pl_3 hS)) ?_
  refine zdv 7 (fun _ => (xadd (r := p.stock + p.kerf))) ?_
  refine zdc 2 (xc0 cl_57) (c_used (p := p) w (h.below hS.below) (Classical.not_not.1 ‹¬ ¬ (p.Ok)›) (hA.below hS.below) (by omega) (fun k k0 k1 => hall k k0 (by omega))) ?_; rintro _ w ⟨rfl, hS'⟩
  replace hS := hS.cmp hS'; clear hS'
  refine ⟨⟨fun _ => hS, hS⟩, ?_⟩
  refine zdv 8 (fun _ => xleq) ?_
  refine zdv 9 (fun _ => xas) ?_
  refine zdd <| ztn <| zrt <| zf1 ⟨_, rfl, ?_⟩
  exact ⟨B_congr ⟨fun hu => ⟨(Classical.not_not.1 ‹¬ ¬ (p.Ok)›), by omega, fun k k0 k1 => hall k k0 (by omega), hu⟩, fun hk => hk.used⟩, hS.nl⟩

def ProperP (p : Prob) (n : Int) (f : Int → Int) : Prop := FitsP p n f ∧ ∀ k, 0 ≤ k → k < n → f k ≤ p.D k
theorem fits_step {p : Prob} {n : Int} {f : Int → Int} (hf : FitsP p n f) {i : Int} (i0 : 0 ≤ i) (i1 : i < n) : 0 ≤ f i ∧ f i ≤ (p.stock + p.kerf - Used p f i.toNat).tdiv (p.L i + p.kerf) := by
  have hp := hf.ok
  have hn := hf.eq
  have he := hp.all i i0 (by omega)
  unfold Prob.each at he
  have hk := hp.k1
  have hu : ∀ j : Nat, i.toNat + j ≤ n.toNat → Used p f i.toNat ≤ Used p f (i.toNat + j) := fun j => by
    induction j with
    | zero => intro _; exact Int.le_refl _
    | succ j ih =>
      intro hj
      have h1 := ih (by omega)
      have h2 := hf.all ((i.toNat + j : Nat) : Int) (by omega) (by omega)
      have h3 := hp.all ((i.toNat + j : Nat) : Int) (by omega) (by omega)
      unfold Prob.each at h3
      have h4 := Int.mul_nonneg h2.1 (show 0 ≤ p.L ((i.toNat + j : Nat) : Int) + p.kerf by omega)
      have h5 := sumTo_next (fun i => f i * (p.L i + p.kerf)) (i := ((i.toNat + j : Nat) : Int)) (by omega)
      have e : Used p f (i.toNat + (j + 1)) = Used p f (i.toNat + j) + f ((i.toNat + j : Nat) : Int) * (p.L ((i.toNat + j : Nat) : Int) + p.kerf) := by
        unfold Used
        rw [show i.toNat + (j + 1) = (((i.toNat + j : Nat) : Int) + 1).toNat by omega, h5]; rfl
      rw [e]; omega
  have h1 : Used p f (i + 1).toNat = Used p f i.toNat + f i * (p.L i + p.kerf) := sumTo_next _ i0
  have h2 : Used p f (i + 1).toNat ≤ Used p f n.toNat := by
    have h3 : ∀ j : Nat, (i + 1).toNat + j ≤ n.toNat → Used p f (i + 1).toNat ≤ Used p f ((i + 1).toNat + j) := fun j => by
      induction j with
      | zero => intro _; exact Int.le_refl _
      | succ j ih =>
        intro hj
        have h1 := ih (by omega)
        have h2 := hf.all (((i + 1).toNat + j : Nat) : Int) (by omega) (by omega)
        have h3 := hp.all (((i + 1).toNat + j : Nat) : Int) (by omega) (by omega)
        unfold Prob.each at h3
        have h4 := Int.mul_nonneg h2.1 (show 0 ≤ p.L (((i + 1).toNat + j : Nat) : Int) + p.kerf by omega)
        have h5 := sumTo_next (fun i => f i * (p.L i + p.kerf)) (i := (((i + 1).toNat + j : Nat) : Int)) (by omega)
        have e : Used p f ((i + 1).toNat + (j + 1)) = Used p f ((i + 1).toNat + j) + f (((i + 1).toNat + j : Nat) : Int) * (p.L (((i + 1).toNat + j : Nat) : Int) + p.kerf) := by
          unfold Used
          rw [show (i + 1).toNat + (j + 1) = ((((i + 1).toNat + j : Nat) : Int) + 1).toNat by omega, h5]; rfl
        rw [e]; omega
    have h4 := h3 (n.toNat - (i + 1).toNat) (by omega)
    rwa [show (i + 1).toNat + (n.toNat - (i + 1).toNat) = n.toNat by omega] at h4
  have h3 := hf.used
  rw [← hn] at h3
  have h0 := (hf.all i i0 (by omega)).1
  have h4 := Int.mul_nonneg h0 (show 0 ≤ p.L i + p.kerf by omega)
  refine ⟨h0, ?_⟩
  rw [Int.tdiv_eq_ediv_of_nonneg (by omega)]
  exact (Int.le_ediv_iff_mul_le (by omega)).2 (by omega)
theorem free_step {p : Prob} (hp : p.Ok) {i l x : Int} (i0 : 0 ≤ i) (i1 : i < p.m) (l0 : 0 ≤ l) (l1 : l ≤ p.stock + p.kerf) (x0 : 0 ≤ x) (x1 : x ≤ l.tdiv (p.L i + p.kerf)) : 0 ≤ x * (p.L i + p.kerf) ∧ x * (p.L i + p.kerf) ≤ l ∧ x ≤ 2000 := by
  have he := hp.all i i0 i1
  unfold Prob.each at he
  have hk := hp.k1; have hs := hp.s2
  rw [Int.tdiv_eq_ediv_of_nonneg l0] at x1
  have h1 := (Int.le_ediv_iff_mul_le (show 0 < p.L i + p.kerf by omega)).1 x1
  have h2 := Int.mul_nonneg x0 (show 0 ≤ p.L i + p.kerf by omega)
  refine ⟨h2, h1, ?_⟩
  by_cases hx : x ≤ 2000
  · exact hx
  · exfalso
    have h3 := Int.mul_le_mul_of_nonneg_left (show 1 + p.kerf ≤ p.L i + p.kerf by omega) x0
    have h4 := Int.mul_le_mul_of_nonneg_right (show 1 ≤ x by omega) hk
    have h5 : x * (1 + p.kerf) = x + x * p.kerf := by rw [Int.mul_add, Int.mul_one]
    omega

theorem c_size {vL vD : Value} {p : Prob} {i : Int} (w0 : World) (h : PAt w0 vL vD p) (hok : p.Ok) (i0 : 0 ≤ i) (i1 : i < p.m) :
    Calls Tryz.prog 182 [.agg #[vL, vD, .int .i64 p.stock, .int .i64 p.kerf], .int .i64 i].toArray w0 fun e w => ∃ v, e = .returned v ∧ v = .int .i64 (p.L i + p.kerf) ∧ Sat w0 w [] := by
  have hp := hok; have he := hp.all i i0 i1; unfold Prob.each at he; have hs2 := hp.s2; have hk1 := hp.k1; have hk2 := hp.k2
  refine zenG Tryz.func182 Tryz.ntmps182 fun w hS => ?_
  refine zsr ?_
  refine zla (xbx (cs := [_, _, _, _]) hS) ?_; rintro _ w ⟨g1, rfl, hS⟩
  replace hS := hS.n1
  refine zlv xas ?_
  refine zlt <| zsq ?_
  refine zdst [0] [0] 1000 mx_ hS ?_; clear hS; intro w hS
  refine zdv 0 (fun _ => (xfb 0 fd_35_0)) ?_
  refine zdla 1 (fun w hS => (xlb 0 pl_22 hS)) ?_
  refine zdv 2 (fun _ => xmv) ?_
  refine zdv 3 (fun _ => (xix (kk := i) sl_22 h.L.slh)) ?_
  refine zdla 4 (fun w hS => (xlr (u := .int .i64 (p.L i)) pl_3 (h.L.below hS.below))) ?_
  have hbv := h.iL i
  refine zdv 5 (fun _ => (xfb 3 fd_35_3)) ?_
  refine zdla 6 (fun w hS => (xlb 0 pl_3 hS)) ?_
  refine zdv 7 (fun _ => (xadd (r := p.L i + p.kerf))) ?_
  refine zdv 8 (fun _ => xas) ?_
  refine zdd <| ztn <| zrt <| zf1 ⟨_, rfl, ?_⟩
  exact ⟨rfl, hS.nl⟩

set_option maxRecDepth 20000 in
theorem c_free {vL vD : Value} {p : Prob} {vA : Value} {n : Int} {f : Int → Int} (w0 : World) (h : PAt w0 vL vD p) (hA : Row w0 vA 1 n (ints f)) :
    Calls Tryz.prog 165 [.agg #[vL, vD, .int .i64 p.stock, .int .i64 p.kerf], vA].toArray w0 fun e w => ∃ v, e = .returned v ∧ ∃ (r : Int) (ok : Prop), v = .tuple #[.int .i64 r, B ok] ∧ (ok ↔ FitsP p n f) ∧ Sat w0 w [] := by
  have hm := h.L.slh.n0; have hm1 := h.L.slh.n1; have hd := h.D.slh.n0; have hd1 := h.D.slh.n1; have hs := h.is; have hk := h.ik
  have hn := hA.slh.n0; have hn1 := hA.slh.n1
  refine zenG Tryz.func165 Tryz.ntmps165 fun w hS => ?_
  refine zsr ?_
  refine zla (xbx (cs := [_, _, _, _]) hS) ?_; rintro _ w ⟨g1, rfl, hS⟩
  replace hS := hS.n1
  refine zs2 ?_
  refine zlt <| zsq <| zsr ?_
  refine zlv (xls 0 st_35 hS) ?_
  refine zlc (xc0 cl_47) (c_pvalid (p := p) w (h.below hS.below)) ?_; rintro _ w ⟨rfl, hS'⟩
  replace hS := hS.cmp hS'; clear hS'
  refine zs2 ?_
  refine zlb 12 ?_ ?_ <;> intro hc
  ·
   iterate 6 refine zlo ?_
   refine zlv xpt ?_
   refine zlt <| zct <| zsr ?_
   refine zs2 ?_
   refine zlt <| zrt <| ztr <| zf2 ⟨_, rfl, ?_⟩
   exact ⟨_, False, by rw [B_false not_false], ⟨fun hh => hh.elim, fun hf => by
     first
     | exact absurd hf.ok ‹¬ p.Ok›
     | (have := hf.eq; omega)
     | (have h8 := fits_step hf h0 (by omega); rw [← show p.stock + p.kerf - Used p f i.toNat = l by omega] at *; omega)
     | (have h8 := fits_step hf h0 (by omega); omega)⟩, hS.nl⟩
  refine zlv xmv ?_
  refine zlv (xln sl_22 hA.slh) ?_
  refine zlv (xfb 0 fd_35_0) ?_
  refine zlv (xlb 0 pl_22 hS) ?_
  refine zlv (xln sl_22 h.L.slh) ?_
  refine zs2 ?_
  refine zlt ?_
  refine zcif ?_ ?_ <;> intro hc
  ·
   refine zsr ?_
   refine zs2 ?_
   refine zlt <| zrt <| ztr <| zf2 ⟨_, rfl, ?_⟩
   exact ⟨_, False, by rw [B_false not_false], ⟨fun hh => hh.elim, fun hf => by
     first
     | exact absurd hf.ok ‹¬ p.Ok›
     | (have := hf.eq; omega)
     | (have h8 := fits_step hf h0 (by omega); rw [← show p.stock + p.kerf - Used p f i.toNat = l by omega] at *; omega)
     | (have h8 := fits_step hf h0 (by omega); omega)⟩, hS.nl⟩
  refine zsk <| ztn <| zsr ?_
  refine zlv (xfb 2 fd_35_2) ?_
  have hp : p.Ok := by first | assumption | exact Classical.not_not.1 ‹_›
  have hnm : n = p.m := by omega
  have hs1 := hp.s1; have hs2 := hp.s2; have hk1 := hp.k1; have hk2 := hp.k2
  refine zlv (xlb 0 pl_3 hS) ?_
  refine zlv (xfb 3 fd_35_3) ?_
  refine zlv (xlb 0 pl_3 hS) ?_
  refine zlv (xadd (r := p.stock + p.kerf)) ?_
  refine zlv xas ?_
  refine zlt <| zsq <| zsr ?_
  refine zlv xmv ?_
  refine zlv (xln sl_22 hA.slh) ?_
  refine zlv xmv ?_
  refine zlt <| zbk <| zlp (fun mm M w => ∃ (l : Int) (i : Int), mm = ((n - i).toNat) ∧ (0 ≤ i) ∧ (i ≤ n) ∧ (l = p.stock + p.kerf - Used p f i.toNat) ∧ (0 ≤ l) ∧ (l ≤ p.stock + p.kerf) ∧ (∀ k, 0 ≤ k → k < i → 0 ≤ f k ∧ f k ≤ 2000) ∧ M = [(2, .pointer (some ⟨g1, 0, none⟩)), (6, .int .i64 l), (25, vA), (26, .int .i64 n), (27, .int .i64 i)] ∧ Sat w0 w [.blk g1 [vL, vD, .int .i64 p.stock, .int .i64 p.kerf]]) ⟨p.stock + p.kerf, 0, rfl, (by omega), (by omega), ?_, (by omega), (by omega), ?_, rfl, hS⟩ ?_
  ·
   show _ = _ - 0; omega
  ·
   intro k k0 k1; omega
  clear hS w
  rintro mm M w ⟨l, i, rfl, h0, h1, hl, hl0, hl1, hall, rfl, hS⟩
  refine zsr ?_
  refine zlv xlss ?_
  refine zlt <| zsq ?_
  refine zcif ?_ ?_ <;> intro hc
  ·
   refine zsk <| ztn <| zsq <| zbk <| zsr ?_
   refine zlv xmv ?_
   have he := hp.all i h0 (by omega); unfold Prob.each at he
   have hqd := tdiv_abs (a := l) (d := p.L i + p.kerf) (A := 2100) (by omega) (by omega)
   refine zlv (xix (kk := i) sl_22 hA.slh) ?_
   refine zlv (xlr (u := .int .i64 (f i)) pl_3 (hA.below hS.below)) ?_
   refine zs2 ?_
   refine zlt <| zsq <| zsr ?_
   refine zs3 ?_
   refine zlb 34 ?_ ?_ <;> intro hc
   ·
    iterate 7 refine zlo ?_
    refine zlv xpt ?_
    refine zlt <| zct <| zsr ?_
    refine zs2 ?_
    refine zlt <| zrt <| ztr <| zbr <| ztr <| ztr <| zbr <| ztr <| zf2 ⟨_, rfl, ?_⟩
    exact ⟨_, False, by rw [B_false not_false], ⟨fun hh => hh.elim, fun hf => by
      first
      | exact absurd hf.ok ‹¬ p.Ok›
      | (have := hf.eq; omega)
      | (have h8 := fits_step hf h0 (by omega); rw [← show p.stock + p.kerf - Used p f i.toNat = l by omega] at *; omega)
      | (have h8 := fits_step hf h0 (by omega); omega)⟩, hS.nl⟩
   refine zs2 ?_
   refine zlv (xls 0 st_35 hS) ?_
   refine zlv xmv ?_
   refine zlc (xc0 cl_182) (c_size (p := p) (i := i) w (h.below hS.below) hp (by omega) (by omega)) ?_; rintro _ w ⟨rfl, hS'⟩
   replace hS := hS.cmp hS'; clear hS'
   refine zlv (xquo (r := (Int.tdiv l (p.L i + p.kerf)))) ?_
   refine zs2 ?_
   refine zlt ?_
   refine zcif ?_ ?_ <;> intro hc
   ·
    refine zsr ?_
    refine zs2 ?_
    refine zlt <| zrt <| ztr <| zbr <| ztr <| ztr <| zbr <| ztr <| zf2 ⟨_, rfl, ?_⟩
    exact ⟨_, False, by rw [B_false not_false], ⟨fun hh => hh.elim, fun hf => by
      first
      | exact absurd hf.ok ‹¬ p.Ok›
      | (have := hf.eq; omega)
      | (have h8 := fits_step hf h0 (by omega); rw [← show p.stock + p.kerf - Used p f i.toNat = l by omega] at *; omega)
      | (have h8 := fits_step hf h0 (by omega); omega)⟩, hS.nl⟩
   refine zsk <| ztn <| zrg ?_
   refine zlv xmv ?_
   have hst := free_step hp h0 (by omega) hl0 hl1 (x := f i) (by omega) (by omega)
   refine zlv xmv ?_
   refine zlv (xls 0 st_35 hS) ?_
   refine zlv xmv ?_
   refine zlc (xc0 cl_182) (c_size (p := p) (i := i) w (h.below hS.below) hp (by omega) (by omega)) ?_; rintro _ w ⟨rfl, hS'⟩
   replace hS := hS.cmp hS'; clear hS'
   refine zlv (xmul (r := ((f i) * (p.L i + p.kerf))) (e := rfl)) ?_
   refine zlv (xsub (r := l - ((f i) * (p.L i + p.kerf)))) ?_
   refine zlv xas ?_
   refine zln <| zbn <| ztn <| zrg ?_
   refine zlv (xadd (r := i + 1)) ?_
   refine zlv xmv ?_
   refine zln <| zlq ⟨l - ((f i) * (p.L i + p.kerf)), i + 1, rfl, (by omega), (by omega), ?_, (by omega), (by omega), ?_, rfl, hS⟩
   ·
    have h9 : Used p f (i + 1).toNat = Used p f i.toNat + f i * (p.L i + p.kerf) := sumTo_next _ h0
    rw [h9]; omega
   ·
    intro k h0' h1'; rcases Int.lt_or_eq_of_le (show k ≤ i by omega) with hk | hk; exact hall k h0' hk; rw [hk]; omega
  refine zxt <| ztx <| ztx <| zbh <| ztn <| zsr ?_
  refine zs3 ?_
  refine zlt <| zrt <| zf2 ⟨_, rfl, ?_⟩
  exact ⟨_, True, by rw [B_true trivial], ⟨fun _ => ⟨hp, by omega, fun k k0 k1 => (hall k k0 (by omega)), by rw [← hnm, show n = i by omega]; omega⟩, fun _ => trivial⟩, hS.nl⟩

set_option maxRecDepth 20000 in
theorem c_pfits {vL vD : Value} {p : Prob} {vA : Value} {n : Int} {f : Int → Int} (w0 : World) (h : PAt w0 vL vD p) (hA : Row w0 vA 1 n (ints f)) :
    Calls Tryz.prog 144 [.agg #[vL, vD, .int .i64 p.stock, .int .i64 p.kerf], vA].toArray w0 fun e w => ∃ v, e = .returned v ∧ v = B (FitsP p n f) ∧ Sat w0 w [] := by
  refine zenG Tryz.func144 Tryz.ntmps144 fun w hS => ?_
  refine zsr ?_
  refine zla (xbx (cs := [_, _, _, _]) hS) ?_; rintro _ w ⟨g1, rfl, hS⟩
  replace hS := hS.n1
  refine zlv xas ?_
  refine zlz ?_
  refine zlv (xls 0 st_35 hS) ?_
  refine zlv xmv ?_
  refine zlc (xc0 cl_165) (c_free (p := p) w (h.below hS.below) (hA.below hS.below)) ?_; rintro _ w ⟨rr1, okr1, rfl, hfrr1, hS'⟩
  replace hS := hS.cmp hS'; clear hS'
  refine zs5 ?_
  refine zlz ?_
  refine zs2 ?_
  refine zlt <| zrt <| zf1 ⟨_, rfl, ?_⟩
  exact ⟨B_congr hfrr1, hS.nl⟩

set_option maxRecDepth 20000 in
theorem c_pproper {vL vD : Value} {p : Prob} {vA : Value} {n : Int} {f : Int → Int} (w0 : World) (h : PAt w0 vL vD p) (hA : Row w0 vA 1 n (ints f)) :
    Calls Tryz.prog 119 [.agg #[vL, vD, .int .i64 p.stock, .int .i64 p.kerf], vA].toArray w0 fun e w => ∃ v, e = .returned v ∧ v = B (ProperP p n f) ∧ Sat w0 w [] := by
  have hm := h.L.slh.n0; have hm1 := h.L.slh.n1; have hd := h.D.slh.n0; have hd1 := h.D.slh.n1; have hs := h.is; have hk := h.ik
  have hn := hA.slh.n0; have hn1 := hA.slh.n1
  refine zenG Tryz.func119 Tryz.ntmps119 fun w hS => ?_
  refine zsr ?_
  refine zla (xbx (cs := [_, _, _, _]) hS) ?_; rintro _ w ⟨g1, rfl, hS⟩
  replace hS := hS.n1
  refine zlv xas ?_
  refine zlt <| zsq <| zsr ?_
  refine zlv (xls 0 st_35 hS) ?_
  refine zlv xmv ?_
  refine zlc (xc0 cl_144) (c_pfits (p := p) w (h.below hS.below) (hA.below hS.below)) ?_; rintro _ w ⟨rfl, hS'⟩
  replace hS := hS.cmp hS'; clear hS'
  refine zlv xnot ?_
  refine zlt ?_
  refine zcif ?_ ?_ <;> intro hc
  ·
   refine zsr ?_
   refine zlv xas ?_
   refine zlt <| zrt <| ztr <| zf1 ⟨_, rfl, ?_⟩
   exact ⟨false_B (by intro hh; first | exact absurd hh.1 ‹_› | (have := hh.2 i h0 (by omega); omega)), hS.nl⟩
  refine zsk <| ztn <| zsq <| zsr ?_
  refine zlv xmv ?_
  refine zlv (xln sl_22 hA.slh) ?_
  refine zlv xmv ?_
  refine zlt <| zbk ?_
  have hfit : FitsP p n f := by first | assumption | exact Classical.not_not.1 ‹_›
  have hfe := hfit.eq; have hfd := hfit.ok.d
  refine zlp (fun mm M w => ∃ (i : Int), mm = ((n - i).toNat) ∧ (0 ≤ i) ∧ (i ≤ n) ∧ (∀ k, 0 ≤ k → k < i → f k ≤ p.D k) ∧ M = [(2, .pointer (some ⟨g1, 0, none⟩)), (11, vA), (12, .int .i64 n), (13, .int .i64 i)] ∧ Sat w0 w [.blk g1 [vL, vD, .int .i64 p.stock, .int .i64 p.kerf]]) ⟨0, rfl, (by omega), (by omega), ?_, rfl, hS⟩ ?_
  ·
   intro k k0 k1; omega
  clear hS w
  rintro mm M w ⟨i, rfl, h0, h1, hall, rfl, hS⟩
  refine zsr ?_
  refine zlv xlss ?_
  refine zlt <| zsq ?_
  refine zcif ?_ ?_ <;> intro hc
  ·
   refine zsk <| ztn <| zsq <| zbk <| zsr ?_
   refine zlv xmv ?_
   refine zlv (xix (kk := i) sl_22 hA.slh) ?_
   refine zlv (xlr (u := .int .i64 (f i)) pl_3 (hA.below hS.below)) ?_
   refine zs2 ?_
   refine zlz ?_
   refine zlv xmv ?_
   refine zlv (xfb 1 fd_35_1) ?_
   refine zlv (xlb 0 pl_22 hS) ?_
   refine zlv xmv ?_
   refine zlv (xix (kk := i) sl_22 h.D.slh) ?_
   refine zlv (xlr (u := .int .i64 (p.D i)) pl_3 (h.D.below hS.below)) ?_
   have hbv := h.iD i
   refine zlv xgtr ?_
   refine zlt ?_
   refine zcif ?_ ?_ <;> intro hc
   ·
    refine zsr ?_
    refine zlv xas ?_
    refine zlt <| zrt <| zbr <| ztr <| ztr <| zbr <| ztr <| zf1 ⟨_, rfl, ?_⟩
    exact ⟨false_B (by intro hh; first | exact absurd hh.1 ‹_› | (have := hh.2 i h0 (by omega); omega)), hS.nl⟩
   refine zsk <| zbn <| ztn <| zrg ?_
   refine zlv (xadd (r := i + 1)) ?_
   refine zlv xmv ?_
   refine zln <| zlq ⟨i + 1, rfl, (by omega), (by omega), ?_, rfl, hS⟩
   ·
    intro k h0' h1'; rcases Int.lt_or_eq_of_le (show k ≤ i by omega) with hk | hk; exact hall k h0' hk; rw [hk]; omega
  refine zxt <| ztx <| ztx <| zbh <| ztn <| zsr ?_
  refine zlv xas ?_
  refine zlt <| zrt <| zf1 ⟨_, rfl, ?_⟩
  exact ⟨true_B (by exact ⟨hfit, fun k k0 k1 => hall k k0 (by omega)⟩), hS.nl⟩

set_option maxRecDepth 20000 in
theorem c_rproper28 {vL vD : Value} {p : Prob} {vA : Value} {n : Int} {f : Int → Int} (w0 : World) (h : PAt w0 vL vD p) (hA : Row w0 vA 1 n (ints f)) :
    Calls Tryz.prog 85 [.agg #[vL, vD, .int .i64 p.stock, .int .i64 p.kerf], vA].toArray w0 fun e w => ∃ v, e = .returned v ∧ v = B (ProperP p n f) ∧ Sat w0 w [] := by
  have hm := h.L.slh.n0; have hm1 := h.L.slh.n1; have hd := h.D.slh.n0; have hd1 := h.D.slh.n1; have hs := h.is; have hk := h.ik
  have hn := hA.slh.n0; have hn1 := hA.slh.n1
  refine zenG Tryz.func85 Tryz.ntmps85 fun w hS => ?_
  refine zsr ?_
  refine zla (xbx (cs := [_, _, _, _]) hS) ?_; rintro _ w ⟨g1, rfl, hS⟩
  replace hS := hS.n1
  refine zlv xas ?_
  refine zlt <| zsq <| zsr ?_
  refine zlv (xls 0 st_24 hS) ?_
  refine zlv xmv ?_
  refine zlc (xc0 cl_73) (c_fits (p := p) w (h.below hS.below) (hA.below hS.below)) ?_; rintro _ w ⟨rfl, hS'⟩
  replace hS := hS.cmp hS'; clear hS'
  refine zlv xnot ?_
  refine zlt ?_
  refine zcif ?_ ?_ <;> intro hc
  ·
   refine zsr ?_
   refine zlv xas ?_
   refine zlt <| zrt <| ztr <| zf1 ⟨_, rfl, ?_⟩
   exact ⟨false_B (by intro hh; first | exact absurd hh.1 ‹_› | (have := hh.2 i h0 (by omega); omega)), hS.nl⟩
  refine zsk <| ztn <| zsq <| zsr ?_
  refine zlv xas ?_
  refine zlt <| zbk ?_
  have hfit : FitsP p n f := by first | assumption | exact Classical.not_not.1 ‹_›
  have hfe := hfit.eq; have hfd := hfit.ok.d
  refine zlp (fun mm M w => ∃ (i : Int), mm = ((n - i).toNat) ∧ (0 ≤ i) ∧ (i ≤ n) ∧ (∀ k, 0 ≤ k → k < i → f k ≤ p.D k) ∧ M = [(1, vA), (2, .pointer (some ⟨g1, 0, none⟩)), (5, .int .i64 i)] ∧ Sat w0 w [.blk g1 [vL, vD, .int .i64 p.stock, .int .i64 p.kerf]]) ⟨0, rfl, (by omega), (by omega), ?_, rfl, hS⟩ ?_
  ·
   intro k k0 k1; omega
  clear hS w
  rintro mm M w ⟨i, rfl, h0, h1, hall, rfl, hS⟩
  refine zsq <| zsr ?_
  refine zs2 ?_
  refine zlv (xln sl_22 hA.slh) ?_
  refine zlv xlss ?_
  refine zlt ?_
  refine zcif ?_ ?_ <;> intro hc
  ·
   refine zsk <| ztn <| zsq <| zbk <| zsq ?_
   refine zdst [0] [0] 1000 mx_ hS ?_; clear hS; intro w hS
   refine zdv 0 (fun _ => xmv) ?_
   refine zdv 1 (fun _ => xmv) ?_
   refine zdv 2 (fun _ => (xix (kk := i) sl_22 hA.slh)) ?_
   refine zdla 3 (fun w hS => (xlr (u := .int .i64 (f i)) pl_3 (hA.below hS.below))) ?_
   refine zdv 4 (fun _ => (xfb 1 fd_24_1)) ?_
   refine zdla 5 (fun w hS => (xlb 0 pl_22 hS)) ?_
   refine zdv 6 (fun _ => xmv) ?_
   refine zdv 7 (fun _ => (xix (kk := i) sl_22 h.D.slh)) ?_
   refine zdla 8 (fun w hS => (xlr (u := .int .i64 (p.D i)) pl_3 (h.D.below hS.below))) ?_
   have hbv := h.iD i
   refine zdv 9 (fun _ => xgtr) ?_
   refine zdd <| ztn ?_
   refine zcif ?_ ?_ <;> intro hc
   ·
    refine zsr ?_
    refine zlv xas ?_
    refine zlt <| zrt <| zbr <| ztr <| ztr <| zbr <| ztr <| zf1 ⟨_, rfl, ?_⟩
    exact ⟨false_B (by intro hh; first | exact absurd hh.1 ‹_› | (have := hh.2 i h0 (by omega); omega)), hS.nl⟩
   refine zsk <| zbn <| ztn <| zrg ?_
   refine zlv xmv ?_
   refine zlv (xadd (r := i + 1)) ?_
   refine zlv xas ?_
   refine zln <| zlq ⟨i + 1, rfl, (by omega), (by omega), ?_, rfl, hS⟩
   ·
    intro k h0' h1'; rcases Int.lt_or_eq_of_le (show k ≤ i by omega) with hk | hk; exact hall k h0' hk; rw [hk]; omega
  refine zxt <| ztx <| ztx <| zbh <| ztn <| zsr ?_
  refine zlv xas ?_
  refine zlt <| zrt <| zf1 ⟨_, rfl, ?_⟩
  exact ⟨true_B (by exact ⟨hfit, fun k k0 k1 => hall k k0 (by omega)⟩), hS.nl⟩

end Go.Proofs.YtopmifmfecfaaaaGreat
