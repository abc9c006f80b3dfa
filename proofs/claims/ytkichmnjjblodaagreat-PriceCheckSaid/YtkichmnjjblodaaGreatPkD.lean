/- Part 4 of the texts that the proof needs. -/
import Derived.Test.YtkichmnjjblodaaGreatPkC
import Derived.ArgAppend
import Derived.ProofKit
import Derived.OpenShut
import Derived.ChangeOld
import Derived.SizedLaws
import Derived.Lib.SmallJoins
import Derived.Deep.Slices
set_option linter.unusedVariables false
set_option linter.unusedSimpArgs false
set_option maxRecDepth 20000
set_option maxHeartbeats 4000000
namespace Go.Proofs.YtkichmnjjblodaaGreat
open Go Go.RowKit Go.Proofs.Gw
theorem cl_175 : calledT Tryz.prog 175 = true := by kernel_rfl
theorem cl_176 : calledT Tryz.prog 176 = true := by kernel_rfl
theorem fd_54_0 : fieldT Tryz.prog 54 0 = some 0 := by kernel_rfl
theorem fd_54_2 : fieldT Tryz.prog 54 2 = some 2 := by kernel_rfl
theorem c_small35 {x : Int} (w0 : World) :
    Calls Tryz.prog 175 [.int .i64 x].toArray w0 fun e w => ∃ v, e = .returned v ∧ v = B (SmallN x) ∧ Sat w0 w [] := by
  refine zenG Tryz.func175 Tryz.ntmps175 fun w hS => ?_
  refine zsr ?_
  refine zlv xas ?_
  refine zlz ?_
  refine zs3 ?_
  refine zlb 5 ?_ ?_ <;> intro hc
  ·
   refine zs4 ?_
   refine zlt <| zrt <| zf1 ⟨_, rfl, ?_⟩
   exact ⟨B_congr (by unfold SmallN; omega), hS⟩
  iterate 2 refine zlo ?_
  refine zs2 ?_
  refine zlt <| zrt <| zf1 ⟨_, rfl, ?_⟩
  exact ⟨false_B (by unfold SmallN; omega), hS⟩
theorem c_rsmall35 {x : Int} (w0 : World) :
    Calls Tryz.prog 120 [.int .i64 x].toArray w0 fun e w => ∃ v, e = .returned v ∧ v = B (SmallN x) ∧ Sat w0 w [] := by
  refine zenG Tryz.func120 Tryz.ntmps120 fun w hS => ?_
  refine zsr ?_
  refine zlv xas ?_
  refine zlz ?_
  refine zs3 ?_
  refine zlb 5 ?_ ?_ <;> intro hc
  ·
   refine zs4 ?_
   refine zlt <| zrt <| zf1 ⟨_, rfl, ?_⟩
   exact ⟨B_congr (by unfold SmallN; omega), hS⟩
  iterate 2 refine zlo ?_
  refine zs2 ?_
  refine zlt <| zrt <| zf1 ⟨_, rfl, ?_⟩
  exact ⟨false_B (by unfold SmallN; omega), hS⟩
theorem c_nlit {x : Int} (w0 : World) :
    Calls Tryz.prog 176 [.int .i64 x].toArray w0 fun e w => ∃ v, e = .returned v ∧ v = B (¬ SmallN x) ∧ Sat w0 w [] := by
  refine zenG Tryz.func176 Tryz.ntmps176 fun w hS => ?_
  refine zsr ?_
  refine zlv xas ?_
  refine zlz ?_
  refine zlv xmv ?_
  refine zlc (xc0 cl_175) (c_small35 (x := x) w) ?_; rintro _ w ⟨rfl, hS'⟩
  replace hS := hS.cmp hS'; clear hS'
  refine zs2 ?_
  refine zlt <| zrt <| zf1 ⟨_, rfl, ?_⟩
  exact ⟨rfl, hS⟩
theorem c_ixsn {v : Value} {n : Int} {f : Int → Int} (w0 : World) (hR : Row w0 v 1 n (ints f)) :
    Calls Tryz.prog 159 [v, .func (.func 176) #[] #[]].toArray w0 fun e w => ∃ v, e = .returned v ∧ ∃ r : Int, v = .int .i64 r ∧ ((r = -1 ∧ ∀ k, 0 ≤ k → k < n → ¬ (¬ SmallN (f k))) ∨ (0 ≤ r ∧ r < n ∧ (¬ SmallN (f r)))) ∧ Sat w0 w [] := by
  have hn := hR.slh.n0; have hn1 := hR.slh.n1
  refine zenG Tryz.func159 Tryz.ntmps159 fun w hS => ?_
  refine zsr ?_
  refine zlv xas ?_
  refine zlt <| zsq <| zsr ?_
  refine zlv xmv ?_
  refine zlv (xln sl_22 hR.slh) ?_
  refine zlv xmv ?_
  refine zlt <| zbk <| zlp (fun mm M w => ∃ (i : Int), mm = ((n - i).toNat) ∧ (0 ≤ i) ∧ (i ≤ n) ∧ (∀ k, 0 ≤ k → k < i → ¬ (¬ SmallN (f k))) ∧ M = [(0, v), (1, .func (.func 176) #[] #[]), (7, .int .i64 n), (8, .int .i64 i)] ∧ Sat w0 w []) ⟨0, rfl, (by omega), (by omega), ?_, rfl, hS⟩ ?_
  ·
   intro k h0 h1; omega
  clear hS w
  rintro mm M w ⟨i, rfl, h0, h1, hall, rfl, hS⟩
  refine zsr ?_
  refine zlv xlss ?_
  refine zlt <| zsq ?_
  refine zcif ?_ ?_ <;> intro hc
  ·
   refine zsk <| ztn <| zsq <| zbk <| zsr ?_
   refine zs2 ?_
   refine zlz ?_
   refine zs3 ?_
   refine zlv (xix (kk := i) sl_22 hR.slh) ?_
   refine zlv (xlr (u := .int .i64 (f i)) pl_3 (hR.below hS.below)) ?_
   refine zlc (xc0 cl_176) (c_nlit (x := (f i)) w) ?_; rintro _ w ⟨rfl, hS'⟩
   replace hS := hS.cmp hS'; clear hS'
   refine zlt ?_
   refine zcif ?_ ?_ <;> intro hc
   ·
    refine zsr ?_
    refine zs2 ?_
    refine zlt <| zrt <| zbr <| ztr <| ztr <| zbr <| ztr <| zf1 ⟨_, rfl, ?_⟩
    exact ⟨i, rfl, .inr ⟨by omega, by omega, ‹¬ SmallN (f i)›⟩, hS⟩
   refine zsk <| zbn <| ztn <| zrg ?_
   refine zlv (xadd (r := i + 1)) ?_
   refine zlv xmv ?_
   refine zln <| zlq ⟨i + 1, rfl, (by omega), (by omega), ?_, rfl, hS⟩
   ·
    intro k h0' h1'; rcases Int.lt_or_eq_of_le (show k ≤ i by omega) with hk | hk; exact hall k h0' hk; rw [hk]; assumption
  refine zxt <| ztx <| ztx <| zbh <| ztn <| zsr ?_
  refine zlv xas ?_
  refine zlt <| zrt <| zf1 ⟨_, rfl, ?_⟩
  exact ⟨-1, rfl, .inl ⟨rfl, fun k h0 h1 => hall k h0 (by omega)⟩, hS⟩
theorem c_cosn {v : Value} {n : Int} {f : Int → Int} (w0 : World) (hR : Row w0 v 1 n (ints f)) :
    Calls Tryz.prog 151 [v, .func (.func 176) #[] #[]].toArray w0 fun e w => ∃ v, e = .returned v ∧ v = B (∃ k, 0 ≤ k ∧ k < n ∧ ¬ SmallN (f k)) ∧ Sat w0 w [] := by
  refine zenG Tryz.func151 Tryz.ntmps151 fun w hS => ?_
  refine zsr ?_
  refine zlv xas ?_
  refine zlz ?_
  refine zs2 ?_
  refine zlc (xc0 cl_159) (c_ixsn (n := n) (f := f) w (hR.below hS.below)) ?_; rintro _ w ⟨r1, rfl, hr1, hS'⟩
  replace hS := hS.cmp hS'; clear hS'
  refine zs2 ?_
  refine zlt <| zrt <| zf1 ⟨_, rfl, ?_⟩
  exact ⟨B_congr (by
   rcases hr1 with ⟨h1, h2⟩ | ⟨h1, h2, h3⟩
   · exact ⟨fun h => by omega, fun ⟨k, h4, h5, h6⟩ => absurd h6 (h2 k h4 h5)⟩
   · exact ⟨fun _ => ⟨_, h1, h2, h3⟩, fun _ => h1⟩), hS⟩
theorem c_node {t : Tr} (w0 : World) (hK : KAt w0 t) (hV : LvAt w0 t) :
    Calls Tryz.prog 138 [.agg #[.int .i64 t.s, t.vK, t.vL]].toArray w0 fun e w => ∃ v, e = .returned v ∧ v = B (OkN t) ∧ Sat w0 w [] := by
  have hn := hK.row.slh.n0; have hn1 := hK.row.slh.n1; have hln := hV.leaf.row.slh.n0; have hln1 := hV.leaf.row.slh.n1
  refine zenG Tryz.func138 Tryz.ntmps138 fun w hS => ?_
  refine zsr ?_
  refine zla (xbx (cs := [_, _, _]) hS) ?_; rintro _ w ⟨g1, rfl, hS⟩
  replace hS := hS.n1
  refine zlv xas ?_
  refine zlt <| zsq <| zsr ?_
  refine zlv (xfb 1 fd_54_1) ?_
  refine zlv (xlb 0 pl_52 hS) ?_
  refine zlv (xln sl_52 (hK).row.slh) ?_
  refine zlv xgtr ?_
  refine zlt ?_
  refine zcif ?_ ?_ <;> intro hc
  ·
   refine zsr ?_
   refine zlv (xfb 2 fd_54_2) ?_
   refine zlv (xlb 0 pl_22 hS) ?_
   refine zlv (xln sl_22 (hV).leaf.row.slh) ?_
   refine zs2 ?_
   refine zlb 11 ?_ ?_ <;> intro hc
   ·
    refine zlv (xfb 1 fd_54_1) ?_
    refine zlv (xlb 0 pl_52 hS) ?_
    refine zlv (xln sl_52 (hK).row.slh) ?_
    refine zs3 ?_
    refine zlb 17 ?_ ?_ <;> intro hc
    ·
     refine zlv (xfb 0 fd_54_0) ?_
     refine zlv (xlb 0 pl_3 hS) ?_
     refine zlc (xc0 cl_175) (c_small35 (x := t.s) w) ?_; rintro _ w ⟨rfl, hS'⟩
     replace hS := hS.cmp hS'; clear hS'
     refine zs2 ?_
     refine zlt <| zrt <| ztr <| zf1 ⟨_, rfl, ?_⟩
     exact ⟨B_congr ⟨fun hh => ⟨by first | assumption | (unfold SmallN; omega), by omega, by omega, by omega, fun h0 => by omega, fun k k0 k1 => by first | omega | exact Classical.byContradiction fun h9 => absurd (show ∃ k, 0 ≤ k ∧ k < t.nl ∧ ¬ SmallN (t.l k) from ⟨k, k0, k1, h9⟩) (by assumption)⟩, fun hh => by obtain ⟨h1, h2, h3, h4, h5, h6⟩ := hh; first | exact h1 | exact fun ⟨k, k0, k1, k2⟩ => k2 (h6 k k0 k1) | omega⟩, hS.nl⟩
    iterate 3 refine zlo ?_
    refine zs2 ?_
    refine zlt <| zrt <| ztr <| zf1 ⟨_, rfl, ?_⟩
    exact ⟨false_B (by rintro ⟨h1, h2, h3, h4, h5, h6⟩; first | omega | (have := h5 (by omega); omega) | exact absurd h1 ‹¬ SmallN t.s› | (obtain ⟨k, k0, k1, k2⟩ := ‹∃ k, 0 ≤ k ∧ k < t.nl ∧ ¬ SmallN (t.l k)›; exact k2 (h6 k k0 k1))), hS.nl⟩
   iterate 4 refine zlo ?_
   refine zs2 ?_
   iterate 3 refine zlo ?_
   refine zs2 ?_
   refine zlt <| zrt <| ztr <| zf1 ⟨_, rfl, ?_⟩
   exact ⟨false_B (by rintro ⟨h1, h2, h3, h4, h5, h6⟩; first | omega | (have := h5 (by omega); omega) | exact absurd h1 ‹¬ SmallN t.s› | (obtain ⟨k, k0, k1, k2⟩ := ‹∃ k, 0 ≤ k ∧ k < t.nl ∧ ¬ SmallN (t.l k)›; exact k2 (h6 k k0 k1))), hS.nl⟩
  refine zsk <| ztn <| zsr ?_
  refine zlv (xfb 0 fd_54_0) ?_
  refine zlv (xlb 0 pl_3 hS) ?_
  refine zs2 ?_
  refine zlb 25 ?_ ?_ <;> intro hc
  ·
   refine zlv (xfb 2 fd_54_2) ?_
   refine zlv (xlb 0 pl_22 hS) ?_
   refine zlv (xln sl_22 (hV).leaf.row.slh) ?_
   refine zs3 ?_
   refine zlb 31 ?_ ?_ <;> intro hc
   ·
    refine zlv (xfb 2 fd_54_2) ?_
    refine zlv (xlb 0 pl_22 hS) ?_
    refine zlc (xc0 cl_151) (c_cosn (n := t.nl) (f := t.l) w ((hV).leaf.row.below hS.below)) ?_; rintro _ w ⟨rfl, hS'⟩
    replace hS := hS.cmp hS'; clear hS'
    refine zs3 ?_
    refine zlt <| zrt <| zf1 ⟨_, rfl, ?_⟩
    exact ⟨B_congr ⟨fun hh => ⟨by first | assumption | (unfold SmallN; omega), by omega, by omega, by omega, fun h0 => by omega, fun k k0 k1 => by first | omega | exact Classical.byContradiction fun h9 => absurd (show ∃ k, 0 ≤ k ∧ k < t.nl ∧ ¬ SmallN (t.l k) from ⟨k, k0, k1, h9⟩) (by assumption)⟩, fun hh => by obtain ⟨h1, h2, h3, h4, h5, h6⟩ := hh; first | exact h1 | exact fun ⟨k, k0, k1, k2⟩ => k2 (h6 k k0 k1) | omega⟩, hS.nl⟩
   iterate 4 refine zlo ?_
   refine zs2 ?_
   refine zlt <| zrt <| zf1 ⟨_, rfl, ?_⟩
   exact ⟨false_B (by rintro ⟨h1, h2, h3, h4, h5, h6⟩; first | omega | (have := h5 (by omega); omega) | exact absurd h1 ‹¬ SmallN t.s› | (obtain ⟨k, k0, k1, k2⟩ := ‹∃ k, 0 ≤ k ∧ k < t.nl ∧ ¬ SmallN (t.l k)›; exact k2 (h6 k k0 k1))), hS.nl⟩
  iterate 4 refine zlo ?_
  refine zs2 ?_
  iterate 4 refine zlo ?_
  refine zs2 ?_
  refine zlt <| zrt <| zf1 ⟨_, rfl, ?_⟩
  exact ⟨false_B (by rintro ⟨h1, h2, h3, h4, h5, h6⟩; first | omega | (have := h5 (by omega); omega) | exact absurd h1 ‹¬ SmallN t.s› | (obtain ⟨k, k0, k1, k2⟩ := ‹∃ k, 0 ≤ k ∧ k < t.nl ∧ ¬ SmallN (t.l k)›; exact k2 (h6 k k0 k1))), hS.nl⟩
end Go.Proofs.YtkichmnjjblodaaGreat
namespace Go.Proofs.YtkichmnjjblodaaGreat
open Go Go.RowKit Go.Proofs.Gw
theorem cl_120 : calledT Tryz.prog 120 = true := by kernel_rfl
theorem cl_82 : calledT Tryz.prog 82 = true := by kernel_rfl
theorem fd_45_0 : fieldT Tryz.prog 45 0 = some 0 := by kernel_rfl
theorem fd_45_2 : fieldT Tryz.prog 45 2 = some 2 := by kernel_rfl
theorem c_formed35  : ∀ (t : Tr)  (w0 : World) (hK : KAt w0 t) (hV : LvAt w0 t),
    Calls Tryz.prog 82 [.agg #[.int .i64 t.s, t.vK, t.vL]].toArray w0 fun e w => ∃ v, e = .returned v ∧ v = B t.ok ∧ Sat w0 w [] := by
  refine Tr.ind fun t ih => ?_
  intro  w0 hK hV
  have hn := hK.row.slh.n0; have hn1 := hK.row.slh.n1; have hln := hV.leaf.row.slh.n0; have hln1 := hV.leaf.row.slh.n1
  refine zenG Tryz.func82 Tryz.ntmps82 fun w hS => ?_
  refine zsr ?_
  refine zla (xbx (cs := [_, _, _]) hS) ?_; rintro _ w ⟨g1, rfl, hS⟩
  replace hS := hS.n1
  refine zlv xas ?_
  refine zlt <| zsq <| zsr ?_
  refine zlv (xfb 0 fd_45_0) ?_
  refine zlv (xlb 0 pl_3 hS) ?_
  refine zlc (xc0 cl_120) (c_rsmall35 (x := t.s) w) ?_; rintro _ w ⟨rfl, hS'⟩
  replace hS := hS.cmp hS'; clear hS'
  refine zs2 ?_
  refine zlb 9 ?_ ?_ <;> intro hc
  ·
   iterate 4 refine zlo ?_
   refine zs2 ?_
   iterate 4 refine zlo ?_
   refine zs2 ?_
   iterate 10 refine zlo ?_
   refine zs2 ?_
   iterate 9 refine zlo ?_
   refine zlv xpt ?_
   refine zlt <| zct <| zsr ?_
   refine zlv xas ?_
   refine zlt <| zrt <| ztr <| zf1 ⟨_, rfl, ?_⟩
   exact ⟨false_B (by rw [t.ok_iff]; rintro ⟨⟨h1, h2, h3, h4, h5, h6⟩, h7⟩; first | omega | (have := h5 (by omega); omega) | exact absurd h1 ‹¬ SmallN t.s› | exact absurd (h6 i h0 (by omega)) ‹¬ SmallN (t.l i)› | exact absurd (h7 j j0 (by omega)) ‹¬ (t.kid j).ok›), hS.nl⟩
  refine zlv (xfb 1 fd_45_1) ?_
  refine zlv (xlb 0 pl_43 hS) ?_
  refine zlv (xln sl_43 (hK).row.slh) ?_
  refine zs3 ?_
  refine zlb 15 ?_ ?_ <;> intro hc
  ·
   iterate 4 refine zlo ?_
   refine zs2 ?_
   iterate 10 refine zlo ?_
   refine zs2 ?_
   iterate 9 refine zlo ?_
   refine zlv xpt ?_
   refine zlt <| zct <| zsr ?_
   refine zlv xas ?_
   refine zlt <| zrt <| ztr <| zf1 ⟨_, rfl, ?_⟩
   exact ⟨false_B (by rw [t.ok_iff]; rintro ⟨⟨h1, h2, h3, h4, h5, h6⟩, h7⟩; first | omega | (have := h5 (by omega); omega) | exact absurd h1 ‹¬ SmallN t.s› | exact absurd (h6 i h0 (by omega)) ‹¬ SmallN (t.l i)› | exact absurd (h7 j j0 (by omega)) ‹¬ (t.kid j).ok›), hS.nl⟩
  refine zlv (xfb 2 fd_45_2) ?_
  refine zlv (xlb 0 pl_22 hS) ?_
  refine zlv (xln sl_22 (hV).leaf.row.slh) ?_
  refine zs3 ?_
  refine zlb 21 ?_ ?_ <;> intro hc
  ·
   iterate 10 refine zlo ?_
   refine zs2 ?_
   iterate 9 refine zlo ?_
   refine zlv xpt ?_
   refine zlt <| zct <| zsr ?_
   refine zlv xas ?_
   refine zlt <| zrt <| ztr <| zf1 ⟨_, rfl, ?_⟩
   exact ⟨false_B (by rw [t.ok_iff]; rintro ⟨⟨h1, h2, h3, h4, h5, h6⟩, h7⟩; first | omega | (have := h5 (by omega); omega) | exact absurd h1 ‹¬ SmallN t.s› | exact absurd (h6 i h0 (by omega)) ‹¬ SmallN (t.l i)› | exact absurd (h7 j j0 (by omega)) ‹¬ (t.kid j).ok›), hS.nl⟩
  refine zlv (xfb 1 fd_45_1) ?_
  refine zlv (xlb 0 pl_43 hS) ?_
  refine zlv (xln sl_43 (hK).row.slh) ?_
  refine zs2 ?_
  refine zlb 26 ?_ ?_ <;> intro hc
  ·
   refine zlv (xfb 2 fd_45_2) ?_
   refine zlv (xlb 0 pl_22 hS) ?_
   refine zlv (xln sl_22 (hV).leaf.row.slh) ?_
   refine zs4 ?_
   refine zlb 33 ?_ ?_ <;> intro hc
   ·
    iterate 9 refine zlo ?_
    refine zlv xpt ?_
    refine zlt <| zct <| zsr ?_
    refine zlv xas ?_
    refine zlt <| zrt <| ztr <| zf1 ⟨_, rfl, ?_⟩
    exact ⟨false_B (by rw [t.ok_iff]; rintro ⟨⟨h1, h2, h3, h4, h5, h6⟩, h7⟩; first | omega | (have := h5 (by omega); omega) | exact absurd h1 ‹¬ SmallN t.s› | exact absurd (h6 i h0 (by omega)) ‹¬ SmallN (t.l i)› | exact absurd (h7 j j0 (by omega)) ‹¬ (t.kid j).ok›), hS.nl⟩
   refine zlv (xfb 1 fd_45_1) ?_
   refine zlv (xlb 0 pl_43 hS) ?_
   refine zlv (xln sl_43 (hK).row.slh) ?_
   refine zlv (xkf xeql) ?_
   refine zlv xmv ?_
   iterate 3 refine zlo ?_
   refine zs2 ?_
   refine zlt <| zcf <| zsk <| ztn <| zsq <| zsr ?_
   refine zlv xas ?_
   refine zlt <| zbk <| zlp (fun mm M w => ∃ (i : Int), mm = ((t.nl - i).toNat) ∧ (0 ≤ i) ∧ (i ≤ t.nl) ∧ (∀ k, 0 ≤ k → k < i → SmallN (t.l k)) ∧ M = [(1, .pointer (some ⟨g1, 0, none⟩)), (3, .int .i64 i)] ∧ Sat w0 w [.blk g1 [.int .i64 t.s, t.vK, t.vL]]) ⟨0, rfl, (by omega), (by omega), ?_, rfl, hS⟩ ?_
   ·
    intro k k0 k1; omega
   clear hS w
   rintro mm M w ⟨i, rfl, h0, h1, hall, rfl, hS⟩
   refine zsq <| zsr ?_
   refine zlv xmv ?_
   refine zlv (xfb 2 fd_45_2) ?_
   refine zlv (xlb 0 pl_22 hS) ?_
   refine zlv (xln sl_22 (hV).leaf.row.slh) ?_
   refine zlv xlss ?_
   refine zlt ?_
   refine zcif ?_ ?_ <;> intro hc
   ·
    refine zsk <| ztn <| zsq <| zbk <| zsr ?_
    refine zlv (xfb 2 fd_45_2) ?_
    refine zlv (xlb 0 pl_22 hS) ?_
    refine zlv xmv ?_
    refine zlv (xix (kk := i) sl_22 (hV).leaf.row.slh) ?_
    refine zlv (xlr (u := .int .i64 (t.l i)) pl_3 ((hV).leaf.row.below hS.below)) ?_
    have hbv := (hV).leaf.i i
    refine zlc (xc0 cl_120) (c_rsmall35 (x := (t.l i)) w) ?_; rintro _ w ⟨rfl, hS'⟩
    replace hS := hS.cmp hS'; clear hS'
    refine zlv xnot ?_
    refine zlt ?_
    refine zcif ?_ ?_ <;> intro hc
    ·
     refine zsr ?_
     refine zlv xas ?_
     refine zlt <| zrt <| zbr <| ztr <| ztr <| zbr <| ztr <| zf1 ⟨_, rfl, ?_⟩
     exact ⟨false_B (by rw [t.ok_iff]; rintro ⟨⟨h1, h2, h3, h4, h5, h6⟩, h7⟩; first | omega | (have := h5 (by omega); omega) | exact absurd h1 ‹¬ SmallN t.s› | exact absurd (h6 i h0 (by omega)) ‹¬ SmallN (t.l i)› | exact absurd (h7 j j0 (by omega)) ‹¬ (t.kid j).ok›), hS.nl⟩
    refine zsk <| zbn <| ztn <| zrg ?_
    refine zlv xmv ?_
    refine zlv (xadd (r := i + 1)) ?_
    refine zlv xas ?_
    refine zln <| zlq ⟨i + 1, rfl, (by omega), (by omega), ?_, rfl, hS⟩
    ·
     intro k k0 k1; rcases Int.lt_or_eq_of_le (show k ≤ i by omega) with hk | hk
     · exact hall k k0 hk
     · rw [hk]; exact Classical.not_not.1 ‹¬ ¬ SmallN (t.l i)›
   refine zxt <| ztx <| ztx <| zbh <| ztn <| zsq <| zsr ?_
   refine zlv xas ?_
   refine zlt <| zbk <| zlp (fun mm M w => ∃ (j : Int), mm = ((t.n - j).toNat) ∧ (0 ≤ j) ∧ (j ≤ t.n) ∧ (∀ k, 0 ≤ k → k < j → (t.kid k).ok) ∧ M = [(1, .pointer (some ⟨g1, 0, none⟩)), (4, .int .i64 j)] ∧ Sat w0 w [.blk g1 [.int .i64 t.s, t.vK, t.vL]]) ⟨0, rfl, (by omega), (by omega), ?_, rfl, hS⟩ ?_
   ·
    intro k k0 k1; omega
   clear hS w
   rintro mm M w ⟨j, rfl, j0, j1, hkd, rfl, hS⟩
   refine zsq <| zsr ?_
   refine zlv xmv ?_
   refine zlv (xfb 1 fd_45_1) ?_
   refine zlv (xlb 0 pl_43 hS) ?_
   refine zlv (xln sl_43 (hK).row.slh) ?_
   refine zlv xlss ?_
   refine zlt ?_
   refine zcif ?_ ?_ <;> intro hc
   ·
    refine zsk <| ztn <| zsq <| zbk <| zsr ?_
    refine zlv (xfb 1 fd_45_1) ?_
    refine zlv (xlb 0 pl_43 hS) ?_
    refine zlv xmv ?_
    refine zlv (xix (kk := 3 * j) sl_43 (hK).row.slh) ?_
    refine zlv (xlw (cs := [.int .i64 ((t.kid j).s), (t.kid j).vK, (t.kid j).vL]) st_45 ((hK).row.below hS.below) (kcells_at (q := 3 * j) (i := j) _ (by omega))) ?_
    refine zlc (xc0 cl_82) (ih j (by omega) (by omega) w (KAt.below hS.below ((hK).sub (i := j) (by omega) (by omega))) (LvAt.below hS.below ((hV).sub (i := j) (by omega) (by omega)))) ?_; rintro _ w ⟨rfl, hS'⟩
    replace hS := hS.cmp hS'; clear hS'
    refine zlv xnot ?_
    refine zlt ?_
    refine zcif ?_ ?_ <;> intro hc
    ·
     refine zsr ?_
     refine zlv xas ?_
     refine zlt <| zrt <| zbr <| ztr <| ztr <| zbr <| ztr <| zf1 ⟨_, rfl, ?_⟩
     exact ⟨false_B (by rw [t.ok_iff]; rintro ⟨⟨h1, h2, h3, h4, h5, h6⟩, h7⟩; first | omega | (have := h5 (by omega); omega) | exact absurd h1 ‹¬ SmallN t.s› | exact absurd (h6 i h0 (by omega)) ‹¬ SmallN (t.l i)› | exact absurd (h7 j j0 (by omega)) ‹¬ (t.kid j).ok›), hS.nl⟩
    refine zsk <| zbn <| ztn <| zrg ?_
    refine zlv xmv ?_
    refine zlv (xadd (r := j + 1)) ?_
    refine zlv xas ?_
    refine zln <| zlq ⟨j + 1, rfl, (by omega), (by omega), ?_, rfl, hS⟩
    ·
     intro k k0 k1; rcases Int.lt_or_eq_of_le (show k ≤ j by omega) with hk | hk
     · exact hkd k k0 hk
     · rw [hk]; exact Classical.not_not.1 ‹¬ ¬ (t.kid j).ok›
   refine zxt <| ztx <| ztx <| zbh <| ztn <| zsr ?_
   refine zlv xas ?_
   refine zlt <| zrt <| zf1 ⟨_, rfl, ?_⟩
   exact ⟨true_B ((t.ok_iff).2 ⟨⟨Classical.not_not.1 ‹¬ ¬ SmallN t.s›, by omega, by omega, by omega, fun h0 => by omega, fun k k0 k1 => hall k k0 (by omega)⟩, fun k k0 k1 => hkd k k0 (by omega)⟩), hS.nl⟩
  iterate 4 refine zlo ?_
  refine zs3 ?_
  refine zlv (xfb 1 fd_45_1) ?_
  refine zlv (xlb 0 pl_43 hS) ?_
  refine zlv (xln sl_43 (hK).row.slh) ?_
  refine zs2 ?_
  refine zlb 38 ?_ ?_ <;> intro hc
  ·
   refine zlv (xfb 0 fd_45_0) ?_
   refine zlv (xlb 0 pl_3 hS) ?_
   refine zs3 ?_
   refine zlt ?_
   refine zcif ?_ ?_ <;> intro hc
   ·
    refine zsr ?_
    refine zlv xas ?_
    refine zlt <| zrt <| ztr <| zf1 ⟨_, rfl, ?_⟩
    exact ⟨false_B (by rw [t.ok_iff]; rintro ⟨⟨h1, h2, h3, h4, h5, h6⟩, h7⟩; first | omega | (have := h5 (by omega); omega) | exact absurd h1 ‹¬ SmallN t.s› | exact absurd (h6 i h0 (by omega)) ‹¬ SmallN (t.l i)› | exact absurd (h7 j j0 (by omega)) ‹¬ (t.kid j).ok›), hS.nl⟩
   refine zsk <| ztn <| zsq <| zsr ?_
   refine zlv xas ?_
   refine zlt <| zbk <| zlp (fun mm M w => ∃ (i : Int), mm = ((t.nl - i).toNat) ∧ (0 ≤ i) ∧ (i ≤ t.nl) ∧ (∀ k, 0 ≤ k → k < i → SmallN (t.l k)) ∧ M = [(1, .pointer (some ⟨g1, 0, none⟩)), (3, .int .i64 i)] ∧ Sat w0 w [.blk g1 [.int .i64 t.s, t.vK, t.vL]]) ⟨0, rfl, (by omega), (by omega), ?_, rfl, hS⟩ ?_
   ·
    intro k k0 k1; omega
   clear hS w
   rintro mm M w ⟨i, rfl, h0, h1, hall, rfl, hS⟩
   refine zsq <| zsr ?_
   refine zlv xmv ?_
   refine zlv (xfb 2 fd_45_2) ?_
   refine zlv (xlb 0 pl_22 hS) ?_
   refine zlv (xln sl_22 (hV).leaf.row.slh) ?_
   refine zlv xlss ?_
   refine zlt ?_
   refine zcif ?_ ?_ <;> intro hc
   ·
    refine zsk <| ztn <| zsq <| zbk <| zsr ?_
    refine zlv (xfb 2 fd_45_2) ?_
    refine zlv (xlb 0 pl_22 hS) ?_
    refine zlv xmv ?_
    refine zlv (xix (kk := i) sl_22 (hV).leaf.row.slh) ?_
    refine zlv (xlr (u := .int .i64 (t.l i)) pl_3 ((hV).leaf.row.below hS.below)) ?_
    have hbv := (hV).leaf.i i
    refine zlc (xc0 cl_120) (c_rsmall35 (x := (t.l i)) w) ?_; rintro _ w ⟨rfl, hS'⟩
    replace hS := hS.cmp hS'; clear hS'
    refine zlv xnot ?_
    refine zlt ?_
    refine zcif ?_ ?_ <;> intro hc
    ·
     refine zsr ?_
     refine zlv xas ?_
     refine zlt <| zrt <| zbr <| ztr <| ztr <| zbr <| ztr <| zf1 ⟨_, rfl, ?_⟩
     exact ⟨false_B (by rw [t.ok_iff]; rintro ⟨⟨h1, h2, h3, h4, h5, h6⟩, h7⟩; first | omega | (have := h5 (by omega); omega) | exact absurd h1 ‹¬ SmallN t.s› | exact absurd (h6 i h0 (by omega)) ‹¬ SmallN (t.l i)› | exact absurd (h7 j j0 (by omega)) ‹¬ (t.kid j).ok›), hS.nl⟩
    refine zsk <| zbn <| ztn <| zrg ?_
    refine zlv xmv ?_
    refine zlv (xadd (r := i + 1)) ?_
    refine zlv xas ?_
    refine zln <| zlq ⟨i + 1, rfl, (by omega), (by omega), ?_, rfl, hS⟩
    ·
     intro k k0 k1; rcases Int.lt_or_eq_of_le (show k ≤ i by omega) with hk | hk
     · exact hall k k0 hk
     · rw [hk]; exact Classical.not_not.1 ‹¬ ¬ SmallN (t.l i)›
   refine zxt <| ztx <| ztx <| zbh <| ztn <| zsq <| zsr ?_
   refine zlv xas ?_
   refine zlt <| zbk <| zlp (fun mm M w => ∃ (j : Int), mm = ((t.n - j).toNat) ∧ (0 ≤ j) ∧ (j ≤ t.n) ∧ (∀ k, 0 ≤ k → k < j → (t.kid k).ok) ∧ M = [(1, .pointer (some ⟨g1, 0, none⟩)), (4, .int .i64 j)] ∧ Sat w0 w [.blk g1 [.int .i64 t.s, t.vK, t.vL]]) ⟨0, rfl, (by omega), (by omega), ?_, rfl, hS⟩ ?_
   ·
    intro k k0 k1; omega
   clear hS w
   rintro mm M w ⟨j, rfl, j0, j1, hkd, rfl, hS⟩
   refine zsq <| zsr ?_
   refine zlv xmv ?_
   refine zlv (xfb 1 fd_45_1) ?_
   refine zlv (xlb 0 pl_43 hS) ?_
   refine zlv (xln sl_43 (hK).row.slh) ?_
   refine zlv xlss ?_
   refine zlt ?_
   refine zcif ?_ ?_ <;> intro hc
   ·
    refine zsk <| ztn <| zsq <| zbk <| zsr ?_
    refine zlv (xfb 1 fd_45_1) ?_
    refine zlv (xlb 0 pl_43 hS) ?_
    refine zlv xmv ?_
    refine zlv (xix (kk := 3 * j) sl_43 (hK).row.slh) ?_
    refine zlv (xlw (cs := [.int .i64 ((t.kid j).s), (t.kid j).vK, (t.kid j).vL]) st_45 ((hK).row.below hS.below) (kcells_at (q := 3 * j) (i := j) _ (by omega))) ?_
    refine zlc (xc0 cl_82) (ih j (by omega) (by omega) w (KAt.below hS.below ((hK).sub (i := j) (by omega) (by omega))) (LvAt.below hS.below ((hV).sub (i := j) (by omega) (by omega)))) ?_; rintro _ w ⟨rfl, hS'⟩
    replace hS := hS.cmp hS'; clear hS'
    refine zlv xnot ?_
    refine zlt ?_
    refine zcif ?_ ?_ <;> intro hc
    ·
     refine zsr ?_
     refine zlv xas ?_
     refine zlt <| zrt <| zbr <| ztr <| ztr <| zbr <| ztr <| zf1 ⟨_, rfl, ?_⟩
     exact ⟨false_B (by rw [t.ok_iff]; rintro ⟨⟨h1, h2, h3, h4, h5, h6⟩, h7⟩; first | omega | (have := h5 (by omega); omega) | exact absurd h1 ‹¬ SmallN t.s› | exact absurd (h6 i h0 (by omega)) ‹¬ SmallN (t.l i)› | exact absurd (h7 j j0 (by omega)) ‹¬ (t.kid j).ok›), hS.nl⟩
    refine zsk <| zbn <| ztn <| zrg ?_
    refine zlv xmv ?_
    refine zlv (xadd (r := j + 1)) ?_
    refine zlv xas ?_
    refine zln <| zlq ⟨j + 1, rfl, (by omega), (by omega), ?_, rfl, hS⟩
    ·
     intro k k0 k1; rcases Int.lt_or_eq_of_le (show k ≤ j by omega) with hk | hk
     · exact hkd k k0 hk
     · rw [hk]; exact Classical.not_not.1 ‹¬ ¬ (t.kid j).ok›
   refine zxt <| ztx <| ztx <| zbh <| ztn <| zsr ?_
   refine zlv xas ?_
   refine zlt <| zrt <| zf1 ⟨_, rfl, ?_⟩
   exact ⟨true_B ((t.ok_iff).2 ⟨⟨Classical.not_not.1 ‹¬ ¬ SmallN t.s›, by omega, by omega, by omega, fun h0 => by omega, fun k k0 k1 => hall k k0 (by omega)⟩, fun k k0 k1 => hkd k k0 (by omega)⟩), hS.nl⟩
  iterate 3 refine zlo ?_
  refine zs2 ?_
  refine zlt <| zcf <| zsk <| ztn <| zsq <| zsr ?_
  refine zlv xas ?_
  refine zlt <| zbk <| zlp (fun mm M w => ∃ (i : Int), mm = ((t.nl - i).toNat) ∧ (0 ≤ i) ∧ (i ≤ t.nl) ∧ (∀ k, 0 ≤ k → k < i → SmallN (t.l k)) ∧ M = [(1, .pointer (some ⟨g1, 0, none⟩)), (3, .int .i64 i)] ∧ Sat w0 w [.blk g1 [.int .i64 t.s, t.vK, t.vL]]) ⟨0, rfl, (by omega), (by omega), ?_, rfl, hS⟩ ?_
  ·
   intro k k0 k1; omega
  clear hS w
  rintro mm M w ⟨i, rfl, h0, h1, hall, rfl, hS⟩
  refine zsq <| zsr ?_
  refine zlv xmv ?_
  refine zlv (xfb 2 fd_45_2) ?_
  refine zlv (xlb 0 pl_22 hS) ?_
  refine zlv (xln sl_22 (hV).leaf.row.slh) ?_
  refine zlv xlss ?_
  refine zlt ?_
  refine zcif ?_ ?_ <;> intro hc
  ·
   refine zsk <| ztn <| zsq <| zbk <| zsr ?_
   refine zlv (xfb 2 fd_45_2) ?_
   refine zlv (xlb 0 pl_22 hS) ?_
   refine zlv xmv ?_
   refine zlv (xix (kk := i) sl_22 (hV).leaf.row.slh) ?_
   refine zlv (xlr (u := .int .i64 (t.l i)) pl_3 ((hV).leaf.row.below hS.below)) ?_
   have hbv := (hV).leaf.i i
   refine zlc (xc0 cl_120) (c_rsmall35 (x := (t.l i)) w) ?_; rintro _ w ⟨rfl, hS'⟩
   replace hS := hS.cmp hS'; clear hS'
   refine zlv xnot ?_
   refine zlt ?_
   refine zcif ?_ ?_ <;> intro hc
   ·
    refine zsr ?_
    refine zlv xas ?_
    refine zlt <| zrt <| zbr <| ztr <| ztr <| zbr <| ztr <| zf1 ⟨_, rfl, ?_⟩
    exact ⟨false_B (by rw [t.ok_iff]; rintro ⟨⟨h1, h2, h3, h4, h5, h6⟩, h7⟩; first | omega | (have := h5 (by omega); omega) | exact absurd h1 ‹¬ SmallN t.s› | exact absurd (h6 i h0 (by omega)) ‹¬ SmallN (t.l i)› | exact absurd (h7 j j0 (by omega)) ‹¬ (t.kid j).ok›), hS.nl⟩
   refine zsk <| zbn <| ztn <| zrg ?_
   refine zlv xmv ?_
   refine zlv (xadd (r := i + 1)) ?_
   refine zlv xas ?_
   refine zln <| zlq ⟨i + 1, rfl, (by omega), (by omega), ?_, rfl, hS⟩
   ·
    intro k k0 k1; rcases Int.lt_or_eq_of_le (show k ≤ i by omega) with hk | hk
    · exact hall k k0 hk
    · rw [hk]; exact Classical.not_not.1 ‹¬ ¬ SmallN (t.l i)›
  refine zxt <| ztx <| ztx <| zbh <| ztn <| zsq <| zsr ?_
  refine zlv xas ?_
  refine zlt <| zbk <| zlp (fun mm M w => ∃ (j : Int), mm = ((t.n - j).toNat) ∧ (0 ≤ j) ∧ (j ≤ t.n) ∧ (∀ k, 0 ≤ k → k < j → (t.kid k).ok) ∧ M = [(1, .pointer (some ⟨g1, 0, none⟩)), (4, .int .i64 j)] ∧ Sat w0 w [.blk g1 [.int .i64 t.s, t.vK, t.vL]]) ⟨0, rfl, (by omega), (by omega), ?_, rfl, hS⟩ ?_
  ·
   intro k k0 k1; omega
  clear hS w
  rintro mm M w ⟨j, rfl, j0, j1, hkd, rfl, hS⟩
  refine zsq <| zsr ?_
  refine zlv xmv ?_
  refine zlv (xfb 1 fd_45_1) ?_
  refine zlv (xlb 0 pl_43 hS) ?_
  refine zlv (xln sl_43 (hK).row.slh) ?_
  refine zlv xlss ?_
  refine zlt ?_
  refine zcif ?_ ?_ <;> intro hc
  ·
   refine zsk <| ztn <| zsq <| zbk <| zsr ?_
   refine zlv (xfb 1 fd_45_1) ?_
   refine zlv (xlb 0 pl_43 hS) ?_
   refine zlv xmv ?_
   refine zlv (xix (kk := 3 * j) sl_43 (hK).row.slh) ?_
   refine zlv (xlw (cs := [.int .i64 ((t.kid j).s), (t.kid j).vK, (t.kid j).vL]) st_45 ((hK).row.below hS.below) (kcells_at (q := 3 * j) (i := j) _ (by omega))) ?_
   refine zlc (xc0 cl_82) (ih j (by omega) (by omega) w (KAt.below hS.below ((hK).sub (i := j) (by omega) (by omega))) (LvAt.below hS.below ((hV).sub (i := j) (by omega) (by omega)))) ?_; rintro _ w ⟨rfl, hS'⟩
   replace hS := hS.cmp hS'; clear hS'
   refine zlv xnot ?_
   refine zlt ?_
   refine zcif ?_ ?_ <;> intro hc
   ·
    refine zsr ?_
    refine zlv xas ?_
    refine zlt <| zrt <| zbr <| ztr <| ztr <| zbr <| ztr <| zf1 ⟨_, rfl, ?_⟩
    exact ⟨false_B (by rw [t.ok_iff]; rintro ⟨⟨h1, h2, h3, h4, h5, h6⟩, h7⟩; first | omega | (have := h5 (by omega); omega) | exact absurd h1 ‹¬ SmallN t.s› | exact absurd (h6 i h0 (by omega)) ‹¬ SmallN (t.l i)› | exact absurd (h7 j j0 (by omega)) ‹¬ (t.kid j).ok›), hS.nl⟩
   refine zsk <| zbn <| ztn <| zrg ?_
   refine zlv xmv ?_
   refine zlv (xadd (r := j + 1)) ?_
   refine zlv xas ?_
   refine zln <| zlq ⟨j + 1, rfl, (by omega), (by omega), ?_, rfl, hS⟩
   ·
    intro k k0 k1; rcases Int.lt_or_eq_of_le (show k ≤ j by omega) with hk | hk
    · exact hkd k k0 hk
    · rw [hk]; exact Classical.not_not.1 ‹¬ ¬ (t.kid j).ok›
  refine zxt <| ztx <| ztx <| zbh <| ztn <| zsr ?_
  refine zlv xas ?_
  refine zlt <| zrt <| zf1 ⟨_, rfl, ?_⟩
  exact ⟨true_B ((t.ok_iff).2 ⟨⟨Classical.not_not.1 ‹¬ ¬ SmallN t.s›, by omega, by omega, by omega, fun h0 => by omega, fun k k0 k1 => hall k k0 (by omega)⟩, fun k k0 k1 => hkd k k0 (by omega)⟩), hS.nl⟩
end Go.Proofs.YtkichmnjjblodaaGreat
namespace Go.Proofs.YtkichmnjjblodaaGreat
open Go Go.RowKit Go.Proofs.Gw
theorem cl_101 : calledT Tryz.prog 101 = true := by kernel_rfl
theorem cl_138 : calledT Tryz.prog 138 = true := by kernel_rfl
theorem cl_139 : calledT Tryz.prog 139 = true := by kernel_rfl
theorem cl_140 : calledT Tryz.prog 140 = true := by kernel_rfl
theorem cl_177 : calledT Tryz.prog 177 = true := by kernel_rfl
theorem c_al1 {t : Tr} (w0 : World) (hK : KAt w0 t) (hV : LvAt w0 t) (hal : ∀ (w0 : World), KAt w0 t → LvAt w0 t → Calls Tryz.prog 101 [.agg #[.int .i64 t.s, t.vK, t.vL]].toArray w0 fun e w => ∃ v, e = .returned v ∧ v = B t.ok ∧ Sat w0 w []) :
    Calls Tryz.prog 140 [.agg #[.int .i64 t.s, t.vK, t.vL]].toArray w0 fun e w => ∃ v, e = .returned v ∧ v = B (¬ t.ok) ∧ Sat w0 w [] := by
  refine zenG Tryz.func140 Tryz.ntmps140 fun w hS => ?_
  refine zsr ?_
  refine zla (xbx (cs := [_, _, _]) hS) ?_; rintro _ w ⟨g1, rfl, hS⟩
  replace hS := hS.n1
  refine zlv xas ?_
  refine zlz ?_
  refine zlv (xls 0 st_54 hS) ?_
  refine zlc (xc0 cl_101) (hal w (KAt.below hS.below (hK)) (LvAt.below hS.below (hV))) ?_; rintro _ w ⟨rfl, hS'⟩
  replace hS := hS.cmp hS'; clear hS'
  refine zs2 ?_
  refine zlt <| zrt <| zf1 ⟨_, rfl, ?_⟩
  exact ⟨rfl, hS.nl⟩
theorem c_ixal {t : Tr} (w0 : World) (hK : KAt w0 t) (hV : LvAt w0 t) (iha : ∀ i, 0 ≤ i → i < t.n → ∀ (w0 : World), KAt w0 (t.kid i) → LvAt w0 (t.kid i) → Calls Tryz.prog 101 [.agg #[.int .i64 (t.kid i).s, (t.kid i).vK, (t.kid i).vL]].toArray w0 fun e w => ∃ v, e = .returned v ∧ v = B (t.kid i).ok ∧ Sat w0 w []) :
    Calls Tryz.prog 177 [t.vK, .func (.func 140) #[] #[]].toArray w0 fun e w => ∃ v, e = .returned v ∧ ∃ r : Int, v = .int .i64 r ∧ ((r = -1 ∧ ∀ k, 0 ≤ k → k < t.n → (t.kid k).ok) ∨ (0 ≤ r ∧ r < t.n ∧ ¬ (t.kid r).ok)) ∧ Sat w0 w [] := by
  have hn := hK.row.slh.n0; have hn1 := hK.row.slh.n1; have hln := hV.leaf.row.slh.n0; have hln1 := hV.leaf.row.slh.n1
  refine zenG Tryz.func177 Tryz.ntmps177 fun w hS => ?_
  refine zsr ?_
  refine zlv xas ?_
  refine zlt <| zsq <| zsr ?_
  refine zlv xmv ?_
  refine zlv (xln sl_52 (hK).row.slh) ?_
  refine zlv xmv ?_
  refine zlt <| zbk <| zlp (fun mm M w => ∃ (i : Int), mm = ((t.n - i).toNat) ∧ (0 ≤ i) ∧ (i ≤ t.n) ∧ (∀ k, 0 ≤ k → k < i → (t.kid k).ok) ∧ M = [(0, t.vK), (1, .func (.func 140) #[] #[]), (7, .int .i64 t.n), (8, .int .i64 i)] ∧ Sat w0 w []) ⟨0, rfl, (by omega), (by omega), ?_, rfl, hS⟩ ?_
  ·
   intro k h0 h1; omega
  clear hS w
  rintro mm M w ⟨i, rfl, h0, h1, hall, rfl, hS⟩
  refine zsr ?_
  refine zlv xlss ?_
  refine zlt <| zsq ?_
  refine zcif ?_ ?_ <;> intro hc
  ·
   refine zsk <| ztn <| zsq <| zbk <| zsr ?_
   refine zs2 ?_
   refine zlz ?_
   refine zs3 ?_
   refine zlv (xix (kk := 3 * i) sl_52 (hK).row.slh) ?_
   refine zlv (xlw (cs := [.int .i64 ((t.kid i).s), (t.kid i).vK, (t.kid i).vL]) st_54 ((hK).row.below hS.below) (kcells_at (q := 3 * i) (i := i) _ (by omega))) ?_
   refine zlc (xc0 cl_140) (c_al1 (t := (t.kid i)) w (KAt.below hS.below ((hK).sub (i := i) (by omega) (by omega))) (LvAt.below hS.below ((hV).sub (i := i) (by omega) (by omega))) (iha i (by omega) (by omega))) ?_; rintro _ w ⟨rfl, hS'⟩
   replace hS := hS.cmp hS'; clear hS'
   refine zlt ?_
   refine zcif ?_ ?_ <;> intro hc
   ·
    refine zsr ?_
    refine zs2 ?_
    refine zlt <| zrt <| zbr <| ztr <| ztr <| zbr <| ztr <| zf1 ⟨_, rfl, ?_⟩
    exact ⟨i, rfl, .inr ⟨by omega, by omega, ‹¬ (t.kid i).ok›⟩, hS⟩
   refine zsk <| zbn <| ztn <| zrg ?_
   refine zlv (xadd (r := i + 1)) ?_
   refine zlv xmv ?_
   refine zln <| zlq ⟨i + 1, rfl, (by omega), (by omega), ?_, rfl, hS⟩
   ·
    intro k k0 k1; rcases Int.lt_or_eq_of_le (show k ≤ i by omega) with hk | hk
    · exact hall k k0 hk
    · rw [hk]; exact Classical.not_not.1 ‹_›
  refine zxt <| ztx <| ztx <| zbh <| ztn <| zsr ?_
  refine zlv xas ?_
  refine zlt <| zrt <| zf1 ⟨_, rfl, ?_⟩
  exact ⟨-1, rfl, .inl ⟨rfl, fun k h0 h1 => hall k h0 (by omega)⟩, hS⟩
theorem c_coal {t : Tr} (w0 : World) (hK : KAt w0 t) (hV : LvAt w0 t) (iha : ∀ i, 0 ≤ i → i < t.n → ∀ (w0 : World), KAt w0 (t.kid i) → LvAt w0 (t.kid i) → Calls Tryz.prog 101 [.agg #[.int .i64 (t.kid i).s, (t.kid i).vK, (t.kid i).vL]].toArray w0 fun e w => ∃ v, e = .returned v ∧ v = B (t.kid i).ok ∧ Sat w0 w []) :
    Calls Tryz.prog 139 [t.vK, .func (.func 140) #[] #[]].toArray w0 fun e w => ∃ v, e = .returned v ∧ v = B (∃ k, 0 ≤ k ∧ k < t.n ∧ ¬ (t.kid k).ok) ∧ Sat w0 w [] := by
  refine zenG Tryz.func139 Tryz.ntmps139 fun w hS => ?_
  refine zsr ?_
  refine zlv xas ?_
  refine zlz ?_
  refine zs2 ?_
  refine zlc (xc0 cl_177) (c_ixal (t := t) w (KAt.below hS.below (hK)) (LvAt.below hS.below (hV)) iha) ?_; rintro _ w ⟨r1, rfl, hr1, hS'⟩
  replace hS := hS.cmp hS'; clear hS'
  refine zs2 ?_
  refine zlt <| zrt <| zf1 ⟨_, rfl, ?_⟩
  exact ⟨B_congr (by
   rcases hr1 with ⟨h1, h2⟩ | ⟨h1, h2, h3⟩
   · exact ⟨fun h => by omega, fun ⟨k, h4, h5, h6⟩ => absurd (h2 k h4 h5) h6⟩
   · exact ⟨fun _ => ⟨_, h1, h2, h3⟩, fun _ => h1⟩), hS⟩
theorem c_all35  : ∀ (t : Tr)  (w0 : World) (hK : KAt w0 t) (hV : LvAt w0 t),
    Calls Tryz.prog 101 [.agg #[.int .i64 t.s, t.vK, t.vL]].toArray w0 fun e w => ∃ v, e = .returned v ∧ v = B t.ok ∧ Sat w0 w [] := by
  refine Tr.ind fun t ih => ?_
  intro  w0 hK hV
  refine zenG Tryz.func101 Tryz.ntmps101 fun w hS => ?_
  refine zsr ?_
  refine zla (xbx (cs := [_, _, _]) hS) ?_; rintro _ w ⟨g1, rfl, hS⟩
  replace hS := hS.n1
  refine zlv xas ?_
  refine zlz ?_
  refine zlv (xls 0 st_54 hS) ?_
  refine zlc (xc0 cl_138) (c_node (t := t) w (KAt.below hS.below (hK)) (LvAt.below hS.below (hV))) ?_; rintro _ w ⟨rfl, hS'⟩
  replace hS := hS.cmp hS'; clear hS'
  refine zlv xmv ?_
  refine zlb 5 ?_ ?_ <;> intro hc
  ·
   refine zlv (xfb 1 fd_54_1) ?_
   refine zlv (xlb 0 pl_52 hS) ?_
   refine zlc (xc0 cl_139) (c_coal (t := t) w (KAt.below hS.below (hK)) (LvAt.below hS.below (hV)) ih) ?_; rintro _ w ⟨rfl, hS'⟩
   replace hS := hS.cmp hS'; clear hS'
   refine zs3 ?_
   refine zlt <| zrt <| zf1 ⟨_, rfl, ?_⟩
   exact ⟨B_congr (by rw [t.ok_iff]; exact ⟨fun hh => ⟨‹OkN t›, fun k k0 k1 => Classical.byContradiction fun h9 => hh ⟨k, k0, k1, h9⟩⟩, fun hh ⟨k, k0, k1, k2⟩ => k2 (hh.2 k k0 k1)⟩), hS.nl⟩
  iterate 4 refine zlo ?_
  refine zs2 ?_
  refine zlt <| zrt <| zf1 ⟨_, rfl, ?_⟩
  exact ⟨false_B (by rw [t.ok_iff]; rintro ⟨h1, h2⟩; first | exact absurd h1 ‹¬ OkN t› | (obtain ⟨k, k0, k1, k2⟩ := ‹∃ k, 0 ≤ k ∧ k < t.n ∧ ¬ (t.kid k).ok›; exact k2 (h2 k k0 k1))), hS.nl⟩
theorem c_valid35 {t : Tr} (w0 : World) (hK : KAt w0 t) (hV : LvAt w0 t) :
    Calls Tryz.prog 68 [.agg #[.int .i64 t.s, t.vK, t.vL]].toArray w0 fun e w => ∃ v, e = .returned v ∧ v = B (ValidT t) ∧ Sat w0 w [] := by
  refine zenG Tryz.func68 Tryz.ntmps68 fun w hS => ?_
  refine zsr ?_
  refine zla (xbx (cs := [_, _, _]) hS) ?_; rintro _ w ⟨g1, rfl, hS⟩
  replace hS := hS.n1
  refine zlv xas ?_
  refine zlz ?_
  refine zlv (xls 0 st_54 hS) ?_
  refine zlc (xc0 cl_99) (c_nodes t w (KAt.below hS.below (hK)) (LvAt.below hS.below (hV))) ?_; rintro _ w ⟨rfl, hS'⟩
  replace hS := hS.cmp hS'; clear hS'
  refine zs2 ?_
  refine zlb 6 ?_ ?_ <;> intro hc
  ·
   refine zlv (xls 0 st_54 hS) ?_
   refine zlc (xc0 cl_100) (c_depth t w (KAt.below hS.below (hK)) (LvAt.below hS.below (hV))) ?_; rintro _ w ⟨rfl, hS'⟩
   replace hS := hS.cmp hS'; clear hS'
   refine zs3 ?_
   refine zlb 11 ?_ ?_ <;> intro hc
   ·
    refine zlv (xls 0 st_54 hS) ?_
    refine zlc (xc0 cl_101) (c_all35 t w (KAt.below hS.below (hK)) (LvAt.below hS.below (hV))) ?_; rintro _ w ⟨rfl, hS'⟩
    replace hS := hS.cmp hS'; clear hS'
    refine zs2 ?_
    refine zlt <| zrt <| zf1 ⟨_, rfl, ?_⟩
    exact ⟨B_congr ⟨fun hh => ⟨by first | exact hh | assumption, by omega, by omega⟩, fun hh => by obtain ⟨h1, h2, h3⟩ := hh; first | exact h1 | omega⟩, hS.nl⟩
   iterate 2 refine zlo ?_
   refine zs2 ?_
   refine zlt <| zrt <| zf1 ⟨_, rfl, ?_⟩
   exact ⟨false_B (by rintro ⟨h1, h2, h3⟩; first | omega | exact absurd h1 ‹¬ t.ok›), hS.nl⟩
  iterate 3 refine zlo ?_
  refine zs2 ?_
  iterate 2 refine zlo ?_
  refine zs2 ?_
  refine zlt <| zrt <| zf1 ⟨_, rfl, ?_⟩
  exact ⟨false_B (by rintro ⟨h1, h2, h3⟩; first | omega | exact absurd h1 ‹¬ t.ok›), hS.nl⟩
theorem c_rvalid35 {t : Tr} (w0 : World) (hK : KAt w0 t) (hV : LvAt w0 t) :
    Calls Tryz.prog 51 [.agg #[.int .i64 t.s, t.vK, t.vL]].toArray w0 fun e w => ∃ v, e = .returned v ∧ v = B (ValidT t) ∧ Sat w0 w [] := by
  refine zenG Tryz.func51 Tryz.ntmps51 fun w hS => ?_
  refine zsr ?_
  refine zla (xbx (cs := [_, _, _]) hS) ?_; rintro _ w ⟨g1, rfl, hS⟩
  replace hS := hS.n1
  refine zlv xas ?_
  refine zlz ?_
  refine zlv (xls 0 st_45 hS) ?_
  refine zlc (xc0 cl_82) (c_formed35 t w (KAt.below hS.below (hK)) (LvAt.below hS.below (hV))) ?_; rintro _ w ⟨rfl, hS'⟩
  replace hS := hS.cmp hS'; clear hS'
  refine zlv xmv ?_
  refine zlb 5 ?_ ?_ <;> intro hc
  ·
   refine zlv (xls 0 st_45 hS) ?_
   refine zlc (xc0 cl_49) (c_rnodes t w (KAt.below hS.below (hK)) (LvAt.below hS.below (hV))) ?_; rintro _ w ⟨rfl, hS'⟩
   replace hS := hS.cmp hS'; clear hS'
   refine zs3 ?_
   refine zlb 10 ?_ ?_ <;> intro hc
   ·
    refine zlv (xls 0 st_45 hS) ?_
    refine zlc (xc0 cl_83) (c_rdepth t w (KAt.below hS.below (hK)) (LvAt.below hS.below (hV))) ?_; rintro _ w ⟨rfl, hS'⟩
    replace hS := hS.cmp hS'; clear hS'
    refine zs3 ?_
    refine zlt <| zrt <| zf1 ⟨_, rfl, ?_⟩
    exact ⟨B_congr ⟨fun hh => ⟨by first | exact hh | assumption, by omega, by omega⟩, fun hh => by obtain ⟨h1, h2, h3⟩ := hh; first | exact h1 | omega⟩, hS.nl⟩
   iterate 3 refine zlo ?_
   refine zs2 ?_
   refine zlt <| zrt <| zf1 ⟨_, rfl, ?_⟩
   exact ⟨false_B (by rintro ⟨h1, h2, h3⟩; first | omega | exact absurd h1 ‹¬ t.ok›), hS.nl⟩
  iterate 3 refine zlo ?_
  refine zs2 ?_
  iterate 3 refine zlo ?_
  refine zs2 ?_
  refine zlt <| zrt <| zf1 ⟨_, rfl, ?_⟩
  exact ⟨false_B (by rintro ⟨h1, h2, h3⟩; first | omega | exact absurd h1 ‹¬ t.ok›), hS.nl⟩
theorem c_few35 {t : Tr} (w0 : World) (hK : KAt w0 t) (hV : LvAt w0 t) :
    Calls Tryz.prog 19 [.agg #[.int .i64 t.s, t.vK, t.vL]].toArray w0 fun e w => ∃ v, e = .returned v ∧ v = B (t.nodes ≤ 300) ∧ Sat w0 w [] := by
  refine zenG Tryz.func19 Tryz.ntmps19 fun w hS => ?_
  refine zsr ?_
  refine zla (xbx (cs := [_, _, _]) hS) ?_; rintro _ w ⟨g1, rfl, hS⟩
  replace hS := hS.n1
  refine zlv xas ?_
  refine zlz ?_
  refine zlv (xls 0 st_45 hS) ?_
  refine zlc (xc0 cl_49) (c_rnodes t w (KAt.below hS.below (hK)) (LvAt.below hS.below (hV))) ?_; rintro _ w ⟨rfl, hS'⟩
  replace hS := hS.cmp hS'; clear hS'
  refine zs2 ?_
  refine zlt <| zrt <| zf1 ⟨_, rfl, ?_⟩
  exact ⟨B_congr (by omega), hS.nl⟩
end Go.Proofs.YtkichmnjjblodaaGreat
namespace Go.Proofs.YtkichmnjjblodaaGreat
open Go Go.RowKit Go.Proofs.Gw
theorem cl_22 : calledT Tryz.prog 22 = true := by kernel_rfl
theorem el_45 : elemT Tryz.prog 45 = some (.agg #[.int .i64 0, .slice none 0 0, .slice none 0 0], 3, 56) := by kernel_rfl
theorem c_own35  : ∀ (t : Tr)  (w0 : World) (hK : KAt w0 t) (hV : LvAt w0 t),
    Calls Tryz.prog 22 [.agg #[.int .i64 t.s, t.vK, t.vL]].toArray w0 fun e w => ∃ v, e = .returned v ∧ ∃ u : Tr, v = .agg #[.int .i64 u.s, u.vK, u.vL] ∧ Sim t u ∧ Slh u.vK u.n ∧ Slh u.vL u.nl ∧ Sat w0 w [.sem (u.frame 54)] := by
  refine Tr.ind fun t ih => ?_
  intro  w0 hK hV
  have hn := hK.row.slh.n0; have hn1 := hK.row.slh.n1; have hln := hV.leaf.row.slh.n0; have hln1 := hV.leaf.row.slh.n1
  have hbd := hK.bd
  refine zenG Tryz.func22 Tryz.ntmps22 fun w hS => ?_
  refine zsr ?_
  refine zla (xbx (cs := [_, _, _]) hS) ?_; rintro _ w ⟨g1, rfl, hS⟩
  replace hS := hS.n1
  refine zla (xal (cs := [_, _, _]) el_54 hS) ?_; rintro _ w ⟨g2, rfl, hS⟩
  replace hS := hS.n2
  refine zlz ?_
  refine zlv (xfb 0 fd_45_0) ?_
  refine zlv (xlb 0 pl_3 hS) ?_
  refine zlv (xfb 2 fd_45_2) ?_
  refine zlv (xlb 0 pl_22 hS) ?_
  refine zlv (xany (v := .agg #[.int .i64 t.s, .slice none 0 0, t.vL]) (hr := by have hz := (hV).leaf.row.slh; revert hz; generalize t.vL = z; rintro ⟨_, _, _, _, rfl, _⟩; show _ = _; kernel_rfl)) ?_
  refine zla (xal (cs := [_, _, _]) el_54 hS) ?_; rintro _ w ⟨g3, rfl, hS⟩
  replace hS := hS.n3
  refine zle (xsw 2 st_54 hS (hd := (ones_cons rfl (ones_cons rfl (ones_cons (hV).leaf.row.slh.one ones_nil))))) ?_; clear hS; rintro w hS
  replace hS := hS.n3
  refine zlt <| zsq <| zsr ?_
  refine zlv (xfb 1 fd_45_1) ?_
  refine zlv (xlb 0 pl_43 hS) ?_
  refine zlv (xln sl_43 (hK).row.slh) ?_
  refine zlv xmv ?_
  refine zlt <| zbk ?_
  replace hS := hS.addnil 3 54 (kcells (fun _ => .nil))
  replace hS := hS.n4
  replace hS := hS.addall (fun z9 => ((fun _ => Tr.nil) z9).frame 54)
  replace hS := hS.n5
  refine zlp (fun mm M w => ∃ (kd : Int → Tr) (wK : Value) (i : Int), mm = ((t.n - i).toNat) ∧ (0 ≤ i) ∧ (i ≤ t.n) ∧ (Slh wK i) ∧ (∀ k, 0 ≤ k → k < i → Sim (t.kid k) (kd k)) ∧ M = [(2, .pointer (some ⟨g2, 0, none⟩)), (3, .pointer (some ⟨g3, 0, none⟩)), (12, t.vK), (13, .int .i64 t.n), (14, .int .i64 i)] ∧ Sat w0 w [.blk g1 [.int .i64 t.s, t.vK, t.vL], .blk g2 [.int .i64 0, .slice none 0 0, .slice none 0 0], .blk g3 [.int .i64 t.s, wK, t.vL], .own wK 3 54 i (kcells kd), .sem (Frame.all i (fun z9 => (kd z9).frame 54))]) ⟨(fun _ => Tr.nil), (.slice none 0 0), 0, rfl, (by omega), (by omega), ?_, ?_, rfl, hS⟩ ?_
  ·
   exact slh_nil
  ·
   intro k k0 k1; omega
  clear hS w
  rintro mm M w ⟨kd, wK, i, rfl, h0, h1, hwK, hsm, rfl, hS⟩
  refine zsr ?_
  refine zlv xlss ?_
  refine zlt <| zsq ?_
  refine zcif ?_ ?_ <;> intro hc
  ·
   refine zsk <| ztn <| zsq <| zbk <| zsr ?_
   refine zlv (xix (kk := 3 * i) sl_43 (hK).row.slh) ?_
   refine zlv (xlw (cs := [.int .i64 ((t.kid i).s), (t.kid i).vK, (t.kid i).vL]) st_45 ((hK).row.below hS.below) (kcells_at (q := 3 * i) (i := i) _ (by omega))) ?_
   refine zla (xal (cs := [_, _, _]) el_45 hS) ?_; rintro _ w ⟨g4, rfl, hS⟩
   replace hS := hS.n6
   refine zle (xsw 5 st_45 hS (hd := (ones_cons rfl (ones_cons ((hK).sub (i := i) (by omega) (by omega)).row.slh.one (ones_cons ((hV).sub (i := i) (by omega) (by omega)).leaf.row.slh.one ones_nil))))) ?_; clear hS; rintro w hS
   replace hS := hS.n6
   refine zlt ?_
   refine zdst [0, 1, 2, 5] [0, 1, 5] 7 mx_ hS ?_; clear hS; intro w hS
   refine zdv 0 (fun _ => (xfb 1 fd_54_1)) ?_
   refine zdl 1 (fun w hS => (xlb 2 pl_52 hS)) ?_
   refine zdla 2 (fun w hS => (xls 2 st_45 hS)) ?_
   refine zdc 3 (xc0 cl_22) (ih i (by omega) (by omega) w (KAt.below hS.below ((hK).sub (i := i) (by omega) (by omega))) (LvAt.below hS.below ((hV).sub (i := i) (by omega) (by omega)))) ?_; rintro _ w ⟨u1, rfl, hsimu1, hku1, hlu1, hS'⟩
   replace hS : Sat w0 w [.blk g1 [.int .i64 t.s, t.vK, t.vL], .blk g2 [.int .i64 0, .slice none 0 0, .slice none 0 0], .blk g3 [.int .i64 t.s, wK, t.vL], .own wK 3 54 i (kcells kd), .sem (Frame.all i (fun z9 => (kd z9).frame 54)), .blk g4 [.int .i64 ((t.kid i).s), (t.kid i).vK, (t.kid i).vL], .sem (u1.frame 54)] := hS.comp hS'; clear hS'
   refine ⟨⟨fun _ => hS.pk [0, 1, 2, 5], hS.pk [0, 1, 5]⟩, ?_⟩
   refine zda 4 (xli (n := 1) (len := 1) (pv := [(0, .agg #[.int .i64 u1.s, u1.vK, u1.vL])]) (cs := [.int .i64 u1.s, u1.vK, u1.vL]) (c := tcells (fun _ => u1.s) (fun _ => u1.vK) (fun _ => u1.vL)) sl_52 el_54 hS (hf := by have hz := hku1; revert hz; generalize u1.vK = z; rintro ⟨_, _, _, _, rfl, _⟩; show _ = _; have hz := hlu1; revert hz; generalize u1.vL = z; rintro ⟨_, _, _, _, rfl, _⟩; show _ = _; kernel_rfl)) ?_; rintro v1 w ⟨hS, hv1⟩
   replace hS := hS.n8
   refine ⟨⟨fun _ => hS.pk [0, 1, 2, 5], hS.pk [0, 1, 5]⟩, ?_⟩
   refine zda 5 (xap 3 (r := i + 1) sl_52 el_54 hS (hS.rowN 7 rfl) (cat_tcells _ _ _) (h1 := fun k _ _ => tcells_one (fun _ => hku1.one) (fun _ => hlu1.one) k)) ?_; rintro v2 w ⟨hS, hv2⟩
   replace hS := hS.n8
   replace hS := Sat.allsnoc (l1 := [_, _, _, _]) (l2 := [_]) (l3 := [_]) hS (by omega) (H := fun z9 => (gsn kd i u1 z9).frame 54) (fun k k0 k1 => by (try dsimp only); rw [gsn_lt k1]) (by (try dsimp only); rw [gsn_self])
   replace hS := hS.n7
   refine ⟨⟨fun _ => hS.pk [0, 1, 2, 5], hS.pk [0, 1, 5]⟩, ?_⟩
   refine zdv 6 (fun _ => (xfb 1 fd_54_1)) ?_
   refine zde 7 (xsb 2 pl_52 hS (hv := hv2.one)) ?_; clear hS; rintro w hS
   replace hS := hS.n7
   refine ⟨⟨fun h => absurd h (by decide), hS.pk [0, 1, 5]⟩, ?_⟩
   refine zdd <| zbn <| ztn <| zrg ?_
   refine zlv (xadd (r := i + 1)) ?_
   refine zlv xmv ?_
   refine zln <| zlq ⟨(gsn kd i u1), v2, i + 1, rfl, (by omega), (by omega), ?_, ?_, rfl, hS.pk [0, 1, 2, 3, 4]⟩
   ·
    exact hv2
   ·
    intro k k0 k1; by_cases e : k < i
    · rw [gsn_lt e]; exact hsm k k0 e
    · rw [gsn_at e, show k = i by omega]; exact hsimu1
  refine zxt <| ztx <| ztx <| zbh <| ztn <| zsr ?_
  refine zlv (xls 2 st_54 hS) ?_
  refine zle (xsw 1 st_54 hS (hd := (ones_cons rfl (ones_cons hwK.one (ones_cons (hV).leaf.row.slh.one ones_nil))))) ?_; clear hS; rintro w hS
  replace hS := hS.n5
  refine zlt <| zrt <| zfc 1 st_54 hS ⟨_, rfl, ?_⟩
  exact ⟨.mk t.s wK i kd t.vL t.nl t.l, rfl, Sim.mk' rfl (by show i = t.n; omega) rfl rfl rfl (fun k k0 k1 => hsm k k0 (by omega)), hwK, hV.leaf.row.slh, Sat.tree (l := []) (hS.pk [3, 4]) t.s t.vL t.nl t.l⟩
end Go.Proofs.YtkichmnjjblodaaGreat
namespace Go.Proofs.YtkichmnjjblodaaGreat
open Go Go.RowKit Go.Proofs.Gw
noncomputable def partP (p : Prob) (wi i : Int) : Prob := p.with fun j => p.D j - pat0 (MX p wi) i j
def fw (f : Int → Option (List Int)) : Nat → Int → Option (List Int)
  | 0, _ => none
  | c + 1, i => match f i with
    | some l => some (i :: l)
    | none => fw f c (i + 1)
theorem fw_end {f : Int → Option (List Int)} {n i : Int} (h : n ≤ i) : fw f (n - i).toNat i = none := by rw [show (n - i).toNat = 0 by omega]; rfl
theorem fw_no {f : Int → Option (List Int)} {n i : Int} (h : i < n) (hf : f i = none) : fw f (n - i).toNat i = fw f (n - (i + 1)).toNat (i + 1) := by
  rw [show (n - i).toNat = (n - (i + 1)).toNat + 1 by omega]
  show (match f i with
    | some l => some (i :: l)
    | none => fw f (n - (i + 1)).toNat (i + 1)) = _
  rw [hf]
theorem fw_yes {f : Int → Option (List Int)} {n i : Int} {l : List Int} (h : i < n) (hf : f i = some l) : fw f (n - i).toNat i = some (i :: l) := by
  rw [show (n - i).toNat = (n - (i + 1)).toNat + 1 by omega]
  show (match f i with
    | some l => some (i :: l)
    | none => fw f (n - (i + 1)).toNat (i + 1)) = _
  rw [hf]
theorem fw_some {f : Int → Option (List Int)} : ∀ {c : Nat} {i : Int} {l : List Int}, fw f c i = some l → ∃ k m, i ≤ k ∧ k < i + c ∧ f k = some m ∧ l = k :: m
  | 0, i, l, h => by cases h
  | c + 1, i, l, h => by
    unfold fw at h
    cases hf : f i with
    | some m => rw [hf] at h; injection h with h; subst h; exact ⟨i, m, by omega, by omega, hf, rfl⟩
    | none =>
      rw [hf] at h
      obtain ⟨k, m, h1, h2, h3, h4⟩ := fw_some h
      exact ⟨k, m, by omega, by omega, h3, h4⟩
noncomputable def wrT : Tr → Prob → Int → Option (List Int)
  | .nil, p, b => @ite _ (LeafP p b 0 (fun _ => 0)) (Classical.propDecidable _) none (some [])
  | .mk s vK n kid vL nl l, p, b => if n = 0 then @ite _ (LeafP p b nl l) (Classical.propDecidable _) none (some []) else
    @ite _ (SplOk p b s ∧ partsN p b s = n) (Classical.propDecidable _) (fw (fun i => wrT (kid i) (partP p s i) (b - 1)) n.toNat 0) (some [])
theorem wr_leaf {t : Tr} {p : Prob} {b : Int} (h : t.n = 0) : wrT t p b = @ite _ (LeafP p b t.nl t.l) (Classical.propDecidable _) none (some []) := by
  cases t with
  | nil => rfl
  | mk s vK n kid vL nl l => exact if_pos h
theorem wr_leaf_yes {t : Tr} {p : Prob} {b : Int} (h : t.n = 0) (hl : LeafP p b t.nl t.l) : wrT t p b = none := by rw [wr_leaf h, if_pos hl]
theorem wr_leaf_no {t : Tr} {p : Prob} {b : Int} (h : t.n = 0) (hl : ¬ LeafP p b t.nl t.l) : wrT t p b = some [] := by rw [wr_leaf h, if_neg hl]
noncomputable def kidW (t : Tr) (p : Prob) (b : Int) (i : Int) : Option (List Int) := wrT (t.kid i) (partP p t.s i) (b - 1)
theorem wr_kids {t : Tr} {p : Prob} {b : Int} (h : t.n ≠ 0) (hs : SplOk p b t.s) (hn : partsN p b t.s = t.n) : wrT t p b = fw (kidW t p b) (t.n - 0).toNat 0 := by
  cases t with
  | nil => exact absurd rfl h
  | mk s vK n kid vL nl l =>
    have h' : n ≠ 0 := h
    show (if n = 0 then _ else _) = _
    rw [if_neg h', if_pos (show SplOk p b s ∧ partsN p b s = n from ⟨hs, hn⟩), Int.sub_zero]
    rfl
theorem wr_bad {t : Tr} {p : Prob} {b : Int} (h : t.n ≠ 0) (hs : ¬ (SplOk p b t.s ∧ partsN p b t.s = t.n)) : wrT t p b = some [] := by
  cases t with
  | nil => exact absurd rfl h
  | mk s vK n kid vL nl l =>
    have h' : n ≠ 0 := h
    show (if n = 0 then _ else _) = _
    rw [if_neg h', if_neg (show ¬ (SplOk p b s ∧ partsN p b s = n) from hs)]
theorem wr_len : ∀ (t : Tr) {p : Prob} {b : Int} {l : List Int}, wrT t p b = some l → (l.length : Int) ≤ max b 0 := Tr.ind fun t ih p b l h => by
  by_cases h0 : t.n = 0
  · by_cases hl : LeafP p b t.nl t.l
    · rw [wr_leaf_yes h0 hl] at h; cases h
    · rw [wr_leaf_no h0 hl] at h; cases h; simp; omega
  · by_cases hs : SplOk p b t.s ∧ partsN p b t.s = t.n
    · rw [wr_kids h0 hs.1 hs.2] at h
      obtain ⟨k, m, k0, k1, k2, rfl⟩ := fw_some h
      have hn : partsN p b t.s = (MX p t.s).length := partsN_yes hs.1
      have := ih k k0 (by have := hs.2; omega) k2
      have := hs.1.2.1
      rw [List.length_cons]; omega
    · rw [wr_bad h0 hs] at h; cases h; simp; omega
theorem Sim.wr : ∀ (t : Tr) {u : Tr}, Sim t u → ∀ (p : Prob) (b : Int), wrT u p b = wrT t p b := Tr.ind fun t ih u h p b => by
  obtain ⟨h1, h2, _, h4, h5, h6⟩ := h.of
  by_cases h0 : t.n = 0
  · rw [wr_leaf h0, wr_leaf (h2.trans h0), h4, h5]
  · have hu : u.n ≠ 0 := by rw [h2]; exact h0
    by_cases hs : SplOk p b t.s ∧ partsN p b t.s = t.n
    · rw [wr_kids h0 hs.1 hs.2, wr_kids hu (by rw [h1]; exact hs.1) (by rw [h1, h2]; exact hs.2), h2]
      have e : ∀ (c : Nat) (i : Int), 0 ≤ i → i + c ≤ t.n → fw (kidW u p b) c i = fw (kidW t p b) c i := fun c => by
        induction c with
        | zero => intro i _ _; rfl
        | succ c ihc =>
          intro i i0 i1
          have ek : kidW u p b i = kidW t p b i := by unfold kidW; rw [h1]; exact ih i i0 (by omega) (h6 i i0 (by omega)) _ _
          unfold fw
          rw [ek, ihc (i + 1) (by omega) (by omega)]
      have hn : partsN p b t.s = (MX p t.s).length := partsN_yes hs.1
      exact e _ 0 (Int.le_refl _) (by have := hs.2; omega)
    · rw [wr_bad h0 hs, wr_bad hu (by rw [h1, h2]; exact hs)]
def IsL (q : Int) (f : Int → Int) (l : List Int) : Prop := q = l.length ∧ ∀ k, 0 ≤ k → k < q → f k = l.getD k.toNat 0
theorem IsL.nil {f : Int → Int} : IsL 0 f [] := ⟨rfl, fun k h0 h1 => by omega⟩
theorem IsL.cons {q i : Int} {f g : Int → Int} {l : List Int} (h : IsL q f l) (h0 : g 0 = i) (hg : ∀ k, 0 ≤ k → k < q → g (k + 1) = f k) : IsL (q + 1) g (i :: l) := by
  obtain ⟨h1, h2⟩ := h
  refine ⟨by simp [h1], fun k k0 k1 => ?_⟩
  by_cases e : k = 0
  · rw [e, h0]; rfl
  · have := hg (k - 1) (by omega) (by omega)
    rw [show k - 1 + 1 = k by omega] at this
    rw [this, h2 (k - 1) (by omega) (by omega), show k.toNat = (k - 1).toNat + 1 by omega]; rfl
theorem IsL.snoc {q i : Int} {f : Int → Int} {l : List Int} (h : IsL q f l) : IsL (q + 1) (Go.Proofs.Gw.snoc f q i) (l ++ [i]) := by
  obtain ⟨h1, h2⟩ := h
  refine ⟨by simp [h1], fun k k0 k1 => ?_⟩
  by_cases e : k < q
  · rw [snoc_lt e, h2 k k0 e, List.getD_eq_getElem?_getD, List.getD_eq_getElem?_getD, List.getElem?_append_left (by omega)]
  · rw [snoc_at e, show k.toNat = l.length by omega, List.getD_eq_getElem?_getD, List.getElem?_append_right (Nat.le_refl _)]; simp
theorem IsL.init {q i : Int} {f : Int → Int} {l : List Int} (h : IsL q f (l ++ [i])) : IsL (q - 1) f l := by
  obtain ⟨h1, h2⟩ := h
  rw [List.length_append, List.length_singleton] at h1
  refine ⟨by omega, fun k k0 k1 => ?_⟩
  rw [h2 k k0 (by omega), List.getD_eq_getElem?_getD, List.getD_eq_getElem?_getD, List.getElem?_append_left (by omega)]
theorem IsL.same {q r : Int} {f g : Int → Int} {l : List Int} (h : IsL q f l) (h' : IsL r g l) : q = r ∧ ∀ k, 0 ≤ k → k < q → f k = g k := by
  have e : q = r := h.1.trans h'.1.symm
  exact ⟨e, fun k k0 k1 => by rw [h.2 k k0 k1, h'.2 k k0 (by omega)]⟩
theorem part_ok {p : Prob} {b wi i : Int} (hs : SplOk p b wi) (i0 : 0 ≤ i) (i1 : i < partsN p b wi) : MPat p wi (pat0 (MX p wi) i) ∧ 1 ≤ pat0 (MX p wi) i wi := by
  rw [partsN_yes hs] at i1
  obtain ⟨h1, h2⟩ := MX_pat hs.1.1 (pat0_mem i0 i1)
  exact ⟨h1, h2 hs.2.2.1.1 hs.2.2.1.2⟩
theorem part_at {w w' : World} {vL vD : Value} {p : Prob} {b wi i : Int} {vv : Int → Value} (hs : SplOk p b wi) (h : PAt w' vL vD p) (rL : Row w (vv (2 * i)) 1 p.m (ints (gfn p (MX p wi) (2 * i)))) (rD : Row w (vv (2 * i + 1)) 1 p.m (ints (gfn p (MX p wi) (2 * i + 1)))) (i0 : 0 ≤ i) (i1 : i < partsN p b wi) : PAt w (vv (2 * i)) (vv (2 * i + 1)) (partP p wi i) := by
  have hp := hs.1.1
  rw [gfn0 p _ (i := i) rfl] at rL
  rw [gfn1 p _ (i := i) rfl] at rD
  refine ⟨rL, ?_, h.iL, fun k => ?_, h.is, h.ik⟩
  · show Row w _ 1 p.d _
    rw [hp.d]; exact rD
  · obtain ⟨hm, _⟩ := part_ok hs i0 i1
    show _ ≤ p.D k - pat0 (MX p wi) i k ∧ p.D k - pat0 (MX p wi) i k ≤ _
    by_cases hk : 0 ≤ k ∧ k < p.m
    · have h1 := hm.rng k hk.1 hk.2
      have h2 := hp.all k hk.1 hk.2
      unfold Prob.each at h2
      omega
    · rw [hm.zero k (by omega)]
      have := h.iD k
      omega
def consf (i : Int) (f : Int → Int) : Int → Int := fun k => if k < 1 then i else f (k - 1)
theorem cat_consf (i : Int) (f : Int → Int) : cat ((1 : Int) * (1 : Nat)) (ints fun _ => i) (ints f) = ints (consf i f) := by
  funext j; simp only [cat, ints, consf]; split <;> split <;> first | rfl | omega
theorem IsL.consf {q i : Int} {f : Int → Int} {l : List Int} (h : IsL q f l) : IsL (q + 1) (consf i f) (i :: l) := h.cons (if_pos (by omega)) fun k k0 k1 => by
  unfold Go.Proofs.YtkichmnjjblodaaGreat.consf; rw [if_neg (by omega), show k + 1 - 1 = k by omega]
theorem wr_q {t : Tr} {p : Prob} {b q : Int} {f : Int → Int} (h : IsL q f ((wrT t p b).getD [])) : 0 ≤ q ∧ (q ≤ b ∨ q ≤ 0) := by
  refine ⟨by have := h.1; omega, ?_⟩
  cases e : wrT t p b with
  | none => rw [e] at h; exact .inr (by rw [h.1]; simp)
  | some l => rw [e] at h; have := wr_len t e; have := h.1; simp only [Option.getD_some] at this; omega
theorem wr_ne {t : Tr} {p : Prob} {b : Int} (h : t.n = 0) : wrT t p b ≠ none ↔ ¬ LeafP p b t.nl t.l := by
  by_cases hl : LeafP p b t.nl t.l
  · rw [wr_leaf_yes h hl]; exact ⟨fun h => absurd rfl h, fun h => absurd hl h⟩
  · rw [wr_leaf_no h hl]; exact ⟨fun _ => hl, fun _ => Option.some_ne_none _⟩
theorem wr_nil {t : Tr} {p : Prob} {b : Int} (h : t.n = 0) : (wrT t p b).getD [] = [] := by
  by_cases hl : LeafP p b t.nl t.l
  · rw [wr_leaf_yes h hl]; rfl
  · rw [wr_leaf_no h hl]; rfl
end Go.Proofs.YtkichmnjjblodaaGreat
namespace Go.Proofs.YtkichmnjjblodaaGreat
open Go Go.RowKit Go.Proofs.Gw
theorem cl_52 : calledT Tryz.prog 52 = true := by kernel_rfl
theorem c_wrong  : ∀ (t : Tr) {vL vD : Value} {p : Prob} {b : Int} (w0 : World) (h : PAt w0 vL vD p) (hK : KAt w0 t) (hV : LvAt w0 t),
    Calls Tryz.prog 52 [.agg #[vL, vD, .int .i64 p.stock, .int .i64 p.kerf, .int .i64 b], .agg #[.int .i64 t.s, t.vK, t.vL]].toArray w0 fun e w => ∃ v, e = .returned v ∧ ∃ r q f, v = .tuple #[r, B (wrT t p b ≠ none)] ∧ Slh r q ∧ IsL q f ((wrT t p b).getD []) ∧ Sat w0 w [.own r 1 3 q (ints f)] := by
  refine Tr.ind fun t ih => ?_
  intro vL vD p b w0 h hK hV
  have hn := hK.row.slh.n0; have hn1 := hK.row.slh.n1; have hln := hV.leaf.row.slh.n0; have hln1 := hV.leaf.row.slh.n1
  have hm := h.L.slh.n0; have hm1 := h.L.slh.n1; have hd := h.D.slh.n0; have hd1 := h.D.slh.n1; have hs := h.is; have hk := h.ik
  refine zenG Tryz.func52 Tryz.ntmps52 fun w hS => ?_
  refine zsr ?_
  refine zla (xbx (cs := [_, _, _, _, _]) hS) ?_; rintro _ w ⟨g1, rfl, hS⟩
  replace hS := hS.n1
  refine zla (xbx (cs := [_, _, _]) hS) ?_; rintro _ w ⟨g2, rfl, hS⟩
  replace hS := hS.n2
  refine zs2 ?_
  refine zlt <| zsq <| zsr ?_
  refine zlv (xfb 1 fd_45_1) ?_
  refine zlv (xlb 1 pl_43 hS) ?_
  refine zlv (xln sl_43 (hK).row.slh) ?_
  refine zlv xeql ?_
  refine zlt ?_
  refine zcif ?_ ?_ <;> intro hc
  ·
   refine zsr ?_
   refine zlv (xls 0 st_26 hS) ?_
   refine zlv (xfb 2 fd_45_2) ?_
   refine zlv (xlb 1 pl_22 hS) ?_
   refine zlc (xc0 cl_17) (c_rleaf (p := p) (b := b) w (h.below hS.below) ((hV).leaf.below hS.below) (hV).room) ?_; rintro _ w ⟨rfl, hS'⟩
   replace hS := hS.cmp hS'; clear hS'
   refine zs3 ?_
   refine zlt <| zrt <| ztr <| zf2 ⟨_, rfl, ?_⟩
   have hw9 : t.n = 0 := by omega
   exact ⟨_, 0, fun _ => 0, by rw [B_congr (wr_ne hw9)], slh_nil, by rw [wr_nil hw9]; exact IsL.nil, (hS.addnil 1 3 (ints fun _ => 0)).sub (.cons _ (.cons _ (.cons_cons _ .slnil)))⟩
  refine zsk <| ztn <| zsr ?_
  refine zlv (xls 0 st_26 hS) ?_
  refine zlv (xfb 0 fd_45_0) ?_
  refine zlv (xlb 1 pl_3 hS) ?_
  refine zlc (xc0 cl_15) (c_rsplit (p := p) (b := b) (wi := t.s) w (h.below hS.below)) ?_; rintro _ w ⟨vgg3, vvg3, rfl, hvgg3, hS'⟩
  replace hS : Sat w0 w [.blk g1 [vL, vD, .int .i64 p.stock, .int .i64 p.kerf, .int .i64 b], .blk g2 [.int .i64 t.s, t.vK, t.vL], .own vgg3 5 26 (partsN p b t.s) (gcells vvg3 p.stock p.kerf (b - 1)), .sem (Frame.rows 3 (2 * (partsN p b t.s)) vvg3 (fun _ => p.m) (gfn p (MX p t.s)))] := hS.comp hS'; clear hS'
  have hrsg3 : ∀ k, 0 ≤ k → k < 2 * (partsN p b t.s) → Slh (vvg3 k) p.m := fun k k0 k1 => hS.slhIn 3 rfl k0 k1
  refine zs5 ?_
  refine zlt <| zsq <| zsr ?_
  refine zs3 ?_
  refine zlb 29 ?_ ?_ <;> intro hc
  ·
   iterate 6 refine zlo ?_
   refine zlv xpt ?_
   refine zlt <| zct <| zsr ?_
   refine zs2 ?_
   refine zlt <| zrt <| ztr <| zf2 ⟨_, rfl, ?_⟩
   have hw9 : wrT t p b = some [] := wr_bad (by omega) (by rintro ⟨q1, q2⟩; first | exact absurd q1 ‹¬ SplOk p b t.s› | omega)
   exact ⟨_, 0, fun _ => 0, by rw [B_true (show wrT t p b ≠ none by rw [hw9]; exact Option.some_ne_none _)], slh_nil, by rw [hw9]; exact IsL.nil, (hS.addnil 1 3 (ints fun _ => 0)).sub (.cons _ (.cons _ (.cons _ (.cons _ (.cons_cons _ .slnil)))))⟩
  refine zlv xmv ?_
  refine zlv (xln sl_36 hvgg3) ?_
  refine zlv (xfb 1 fd_45_1) ?_
  refine zlv (xlb 1 pl_43 hS) ?_
  refine zlv (xln sl_43 (hK).row.slh) ?_
  refine zs2 ?_
  refine zlt ?_
  refine zcif ?_ ?_ <;> intro hc
  ·
   refine zsr ?_
   refine zs2 ?_
   refine zlt <| zrt <| ztr <| zf2 ⟨_, rfl, ?_⟩
   have hw9 : wrT t p b = some [] := wr_bad (by omega) (by rintro ⟨q1, q2⟩; first | exact absurd q1 ‹¬ SplOk p b t.s› | omega)
   exact ⟨_, 0, fun _ => 0, by rw [B_true (show wrT t p b ≠ none by rw [hw9]; exact Option.some_ne_none _)], slh_nil, by rw [hw9]; exact IsL.nil, (hS.addnil 1 3 (ints fun _ => 0)).sub (.cons _ (.cons _ (.cons _ (.cons _ (.cons_cons _ .slnil)))))⟩
  refine zsk <| ztn <| zsq <| zsr ?_
  refine zlv xas ?_
  refine zlt <| zbk ?_
  have hsp : SplOk p b t.s := by first | assumption | exact Classical.not_not.1 ‹_›
  have hkn : partsN p b t.s = t.n := by omega
  have hsb := hsp.1.2; have hpn := hvgg3.n1
  refine zlp (fun mm M w => ∃ (i : Int), mm = ((t.n - i).toNat) ∧ (0 ≤ i) ∧ (i ≤ t.n) ∧ (wrT t p b = fw (kidW t p b) (t.n - i).toNat i) ∧ M = [(3, .pointer (some ⟨g2, 0, none⟩)), (6, vgg3), (8, .int .i64 i)] ∧ Sat w0 w [.blk g1 [vL, vD, .int .i64 p.stock, .int .i64 p.kerf, .int .i64 b], .blk g2 [.int .i64 t.s, t.vK, t.vL], .own vgg3 5 26 (partsN p b t.s) (gcells vvg3 p.stock p.kerf (b - 1)), .sem (Frame.rows 3 (2 * (partsN p b t.s)) vvg3 (fun _ => p.m) (gfn p (MX p t.s)))]) ⟨0, rfl, (by omega), (by omega), ?_, rfl, hS⟩ ?_
  ·
   exact wr_kids (by omega) hsp hkn
  clear hS w
  rintro mm M w ⟨i, rfl, h0, h1, hfw, rfl, hS⟩
  refine zsq <| zsr ?_
  refine zs2 ?_
  refine zlv (xln sl_36 hvgg3) ?_
  refine zlv xlss ?_
  refine zlt ?_
  refine zcif ?_ ?_ <;> intro hc
  ·
   refine zsk <| ztn <| zsq <| zbk <| zsq ?_
   refine zdst [0, 1, 2, 3] [0, 1, 2, 3] 1000 mx_ hS ?_; clear hS; intro w hS
   refine zdv 0 (fun _ => xmv) ?_
   refine zdv 1 (fun _ => xmv) ?_
   refine zdv 2 (fun _ => (xix (kk := 5 * i) sl_36 hvgg3)) ?_
   refine zdla 3 (fun w hS => (xlw (cs := [(vvg3 (2 * i)), (vvg3 (2 * i + 1)), .int .i64 p.stock, .int .i64 p.kerf, .int .i64 (b - 1)]) st_26 (hS.rowN 2 rfl) (gcells_at (q := 5 * i) (i := i) vvg3 p.stock p.kerf (b - 1) (by omega)))) ?_
   refine zdv 4 (fun _ => (xfb 1 fd_45_1)) ?_
   refine zdla 5 (fun w hS => (xlb 1 pl_43 hS)) ?_
   refine zdv 6 (fun _ => xmv) ?_
   refine zdv 7 (fun _ => (xix (kk := 3 * i) sl_43 (hK).row.slh)) ?_
   refine zdla 8 (fun w hS => (xlw (cs := [.int .i64 ((t.kid i).s), (t.kid i).vK, (t.kid i).vL]) st_45 ((hK).row.below hS.below) (kcells_at (q := 3 * i) (i := i) _ (by omega)))) ?_
   refine zdc 9 (xc0 cl_52) (ih i (by omega) (by omega) (p := (partP p t.s i)) (b := (b - 1)) w (part_at (vv := vvg3) hsp h (show Row _ _ 1 p.m _ from (hS.rowIn (k := 2 * i) 3 rfl (by omega) (by omega))) (show Row _ _ 1 p.m _ from (hS.rowIn (k := 2 * i + 1) 3 rfl (by omega) (by omega))) (by omega) (by omega)) (KAt.below hS.below ((hK).sub (i := i) (by omega) (by omega))) (LvAt.below hS.below ((hV).sub (i := i) (by omega) (by omega)))) ?_; rintro _ w ⟨rq1, q1, fq1, rfl, hrq1, hiq1, hS'⟩
   replace hS : Sat w0 w [.blk g1 [vL, vD, .int .i64 p.stock, .int .i64 p.kerf, .int .i64 b], .blk g2 [.int .i64 t.s, t.vK, t.vL], .own vgg3 5 26 (partsN p b t.s) (gcells vvg3 p.stock p.kerf (b - 1)), .sem (Frame.rows 3 (2 * (partsN p b t.s)) vvg3 (fun _ => p.m) (gfn p (MX p t.s))), .own rq1 1 3 q1 (ints fq1)] := hS.comp hS'; clear hS'
   have hbq1 := wr_q hiq1
   refine ⟨⟨fun _ => hS.pk [0, 1, 2, 3], hS.pk [0, 1, 2, 3]⟩, ?_⟩
   refine zdv 10 (fun _ => xmv) ?_
   refine zdv 11 (fun _ => xex) ?_
   refine zdv 12 (fun _ => xex) ?_
   refine zdv 13 (fun _ => xas) ?_
   refine zdv 14 (fun _ => xas) ?_
   refine zdd <| ztn <| zsr ?_
   refine zlv xmv ?_
   refine zlt ?_
   refine zcif ?_ ?_ <;> intro hc
   ·
    refine zsr ?_
    refine zlv xmv ?_
    refine zla (xli (n := 1) (len := 1) (pv := [(0, .int .i64 i)]) (cs := [.int .i64 i]) (c := ints (fun _ => i)) sl_22 el_3 hS) ?_; rintro v1 w ⟨hS, hv1⟩
    replace hS := hS.n6
    refine zlv xmv ?_
    refine zla (xap 5 (r := q1 + 1) (f := ints (consf i fq1)) sl_22 el_3 hS (hS.rowN 4 rfl) (by exact cat_consf _ _)) ?_; rintro v2 w ⟨hS, hv2⟩
    replace hS := hS.n6
    refine zs2 ?_
    refine zlt <| zrt <| zbr <| ztr <| ztr <| zbr <| ztr <| zf2 ⟨_, rfl, ?_⟩
    obtain ⟨l9, hl9⟩ := Option.ne_none_iff_exists'.1 ‹(wrT (t.kid i) (partP p t.s i) (b - 1)) ≠ none›
    rw [hl9] at hiq1
    have hw9 : wrT t p b = some (i :: l9) := hfw.trans (fw_yes (by omega) hl9)
    exact ⟨_, _, _, by rw [B_true (show wrT t p b ≠ none by rw [hw9]; exact Option.some_ne_none _)], hv2, by rw [hw9]; exact IsL.consf hiq1, hS.pk [5]⟩
   refine zsk <| zbn <| ztn <| zrg ?_
   refine zlv xmv ?_
   refine zlv (xadd (r := i + 1)) ?_
   refine zlv xas ?_
   refine zln <| zlq ⟨i + 1, rfl, (by omega), (by omega), ?_, rfl, hS.pk [0, 1, 2, 3]⟩
   ·
    rw [hfw]; exact fw_no (by omega) (show kidW t p b i = none from Classical.byContradiction ‹¬ ((wrT (t.kid i) (partP p t.s i) (b - 1)) ≠ none)›)
  refine zxt <| ztx <| ztx <| zbh <| ztn <| zsr ?_
  refine zs2 ?_
  refine zlt <| zrt <| zf2 ⟨_, rfl, ?_⟩
  have hw9 : wrT t p b = none := hfw.trans (fw_end (by omega))
  exact ⟨_, 0, fun _ => 0, by rw [B_false (show ¬ wrT t p b ≠ none by rw [hw9]; exact fun h => h rfl)], slh_nil, by rw [hw9]; exact IsL.nil, (hS.addnil 1 3 (ints fun _ => 0)).sub (.cons _ (.cons _ (.cons _ (.cons _ (.cons_cons _ .slnil)))))⟩
end Go.Proofs.YtkichmnjjblodaaGreat
namespace Go.Proofs.Gw
open Go Go.RowKit
def preV (v : Value) (q : Nat) : Value := match v with
  | .slice a _ cap => .slice a q cap
  | u => u
section
variable {P : Program} {L : List (Nat × Value)} {w w0 : World} {o : Oper} {x y z : Operand} {T T' : TypeId} {l : List Ent} {E : TypeId}
theorem pre_slh {v : Value} {n : Int} {q : Nat} (h : Slh v n) (hq : (q : Int) ≤ n) : Slh (preV v q) q := by
  obtain ⟨h0, h1, a, cap, rfl, hz⟩ := h
  refine ⟨by omega, by omega, a, cap, rfl, ?_⟩
  rcases hz with hz | hz
  · left; omega
  · exact .inr hz
theorem xsl_hi {v : Value} {n i : Int} (q : Nat) (ht : sliceT P T = some (E, 1)) (hv : Slh v n) (hr : Roomy v) (hq : (q : Int) = i := by omega) (hn : 0 < n := by omega) (h1 : i ≤ n := by omega) (ho : o.op = .slice T x none (some y) none := by exact rfl) (hx : evL L x = some v := by exact rfl) (hy : evL L y = some (.int .i64 i) := by exact rfl) :
    Runs P L w o (.value (preV v q)) w := fun ρ h => by
  obtain ⟨hu, inf, hin, hsz⟩ := slice_of ht
  obtain ⟨_, _, a, cap, rfl, hz⟩ := hv
  have hc := hr _ _ _ rfl
  subst hq
  have hb : (Instr.sliceBounds true n.toNat cap none (some (.int .i64 (q : Int))) none).run P w = .ok (0, q, cap) w := by
    simp [Instr.sliceBounds, Instr.sliceBound, asIntOf]
    omega
  have e : (Instr.sliceAt T (.slice a n.toNat cap) none (some (.int .i64 (q : Int))) none).run P w = .ok (preV (.slice a n.toNat cap) q) w := by
    unfold Instr.sliceAt
    simp only [Sem.run_bind, run_underlying hu, Result.andThen_ok, Instr.slice, hb]
    rcases hz with hz | ⟨b, off, rfl⟩
    · omega
    · simp [sizeOf, typeInfo, hin, hsz, preV, Addr.add]
  simp [execOp, ho, h _ _ hx, h _ _ hy, e]
end
end Go.Proofs.Gw
namespace Go.Proofs.Gw
open Go Go.RowKit
def Frame.dq (E : TypeId) (v : Value) (n : Int) (f : Int → Int) : Frame where
  holds w := 0 ≤ n ∧ n ≤ 140737488355328 ∧ ((v = .slice none 0 0 ∧ n = 0) ∨ ∃ g off cap cur, v = .slice (some ⟨g, off, none⟩) n.toNat cap ∧ w.heap[g]? = some (.cells cur E (0, 0)) ∧ n.toNat ≤ cap ∧ cap ≤ maxLen ∧ off + cap ≤ cur.size ∧
    ∀ k : Nat, (k : Int) < n → cur[off + k]? = some (.int .i64 (f k)))
  has g := ∃ a l c, v = .slice (some a) l c ∧ a.block = g
  keep h hk := by
    obtain ⟨h0, h1, h | ⟨g, off, cap, cur, rfl, hg, h⟩⟩ := h
    · exact ⟨h0, h1, .inl h⟩
    · exact ⟨h0, h1, .inr ⟨g, off, cap, cur, rfl, by rw [hk g ⟨_, _, _, rfl, rfl⟩]; exact hg, h⟩⟩
  lt h hg := by
    obtain ⟨_, _, h | ⟨g, off, cap, cur, rfl, h2, _⟩⟩ := h
    · obtain ⟨rfl, _⟩ := h; obtain ⟨_, _, _, e, _⟩ := hg; cases e
    · obtain ⟨_, _, _, e, rfl⟩ := hg; cases e; exact (Array.getElem?_eq_some_iff.1 h2).1
section
variable {P : Program} {L : List (Nat × Value)} {w w0 : World} {o : Oper} {x y z : Operand} {T T' : TypeId} {l : List Ent} {E : TypeId} {v : Value} {n : Int} {f : Int → Int}
theorem Frame.dq.row (h : (Frame.dq E v n f).holds w) : Row w v 1 n (ints f) := by
  obtain ⟨h0, h1, ⟨rfl, rfl⟩ | ⟨g, off, cap, cur, rfl, hg, _, _, _, hc⟩⟩ := h
  · exact row_nil _ _ _
  · refine ⟨⟨h0, h1, _, _, rfl, .inr ⟨g, off, rfl⟩⟩, fun k hk => ?_⟩
    have hk2 : (k : Int) < n := by omega
    have := hc k hk2
    show w.cell? ⟨g, off + (k : Int).toNat, none⟩ = _
    rw [cell_of_row w g _ cur E (0, 0) hg]
    rw [show (k : Int).toNat = k by omega, this]; rfl
theorem Frame.dq.roomy (h : (Frame.dq E v n f).holds w) : Roomy v := fun a len cap e => by
  obtain ⟨_, _, ⟨rfl, _⟩ | ⟨g, off, cap', cur, rfl, _, h2, _⟩⟩ := h
  · cases e; omega
  · cases e; exact h2
theorem Sat.dqOf (h : Sat w0 w l) (i : Nat) (hi : l[i]? = some (.sem (Frame.dq E v n f))) : (Frame.dq E v n f).holds w := h.holds _ (List.mem_of_getElem? hi)
theorem Sat.dqnil (h : Sat w0 w l) (E : TypeId) (f : Int → Int) : Sat w0 w (l ++ [.sem (Frame.dq E (.slice none 0 0) 0 f)]) := by
  refine h.comp (m := [.sem (Frame.dq E (.slice none 0 0) 0 f)]) ⟨Below.refl _ _, ?_, ?_, List.pairwise_singleton _ _⟩
  · intro e he
    obtain rfl := List.mem_singleton.1 he
    exact ⟨by omega, by omega, .inl ⟨rfl, rfl⟩⟩
  · intro e he g hg
    obtain rfl := List.mem_singleton.1 he
    obtain ⟨_, _, _, e, _⟩ := hg; cases e
theorem Sat.resem {F G : Frame} (h : Sat w0 w l) (i : Nat) (hi : l[i]? = some (.sem F)) (hG : F.holds w → G.holds w) (hh : ∀ g, G.has g → F.has g) : Sat w0 w (l.set i (.sem G)) := by
  have h' := h
  rw [split_at hi] at h'
  rw [set_at hi]
  exact h'.turn (d := .sem F) (fun k _ _ => rfl) rfl rfl rfl (Nat.le_refl _) (hG (h.holds _ (List.mem_of_getElem? hi))) (fun g hg => .inl (hh g hg))
theorem Sat.dqpre (h : Sat w0 w l) (i : Nat) (q : Nat) (hq : (q : Int) ≤ n) (hi : l[i]? = some (.sem (Frame.dq E v n f)) := by exact rfl) : Sat w0 w (l.set i (.sem (Frame.dq E (preV v q) q f))) :=
  h.resem i hi (fun ⟨h0, h1, hd⟩ => ⟨by omega, by omega, by
    rcases hd with ⟨rfl, rfl⟩ | ⟨g, off, cap, cur, rfl, hg, h2, h3, h4, h5⟩
    · exact .inl ⟨by obtain rfl : q = 0 := by omega
                     rfl, by omega⟩
    · exact .inr ⟨g, off, cap, cur, by simp [preV], hg, by omega, h3, h4, fun k hk => h5 k (by omega)⟩⟩) (fun g ⟨a', lh, c, e, eb⟩ => by
    cases v with
    | slice a len cap => cases e; exact ⟨_, _, _, rfl, eb⟩
    | _ => cases e)
theorem dqpre_slh {e : Int} (h : Slh v n) (h0 : 0 ≤ e) (h1 : e ≤ n) : Slh (preV v e.toNat) e := by
  have := pre_slh (q := e.toNat) h (by omega)
  rwa [Int.toNat_of_nonneg h0] at this
theorem Sat.dqn (h : Sat w0 w l) (i : Nat) {m : Int} (e : n = m) (hi : l[i]? = some (.sem (Frame.dq E v n f)) := by exact rfl) : Sat w0 w (l.set i (.sem (Frame.dq E v m f))) := by subst e; exact h.resem i hi id fun _ hg => hg
theorem xdqa {u : Value} {b : Nat} {a : Int} {zv : Value} (i : Nat) (ht : sliceT P T = some (E, 1)) (he : elemT P E = some (zv, 1, b)) (hS : Sat w0 w l) (hu : Row w u 1 1 (ints fun _ => a)) (ho : o.op = .call { callee := .builtin .append, args := #[x, y], argTypes := #[T, T] } := by exact rfl) (hz : zv.cells.size = 1 := by exact rfl)
    (hi : l[i]? = some (.sem (Frame.dq E v n f)) := by exact rfl) (hx : evL L x = some v := by exact rfl) (hy : evL L y = some u := by exact rfl) (hb : b * (n + 1) ≤ 140737488355328 := by omega) (hnm : n + 1 ≤ 140737488355328 := by omega) :
    ∃ q w', Runs P L w o (.value q) w' ∧ Sat w0 w' (l.set i (.sem (Frame.dq E q (n + 1) (snoc f n a)))) ∧ Slh q (n + 1) := by
  obtain ⟨hut, _⟩ := slice_of ht
  obtain ⟨inf, hinf, hzz, hsz, hby⟩ := elem_of he
  have hd := hS.dqOf i hi
  have hrow := Frame.dq.row hd
  obtain ⟨h0, h1, hd⟩ := hd
  obtain ⟨_, _, ua, ucap, rfl, hua⟩ := hu.slh
  obtain ⟨ub, uoff, rfl⟩ : ∃ ub uoff, ua = some ⟨ub, uoff, none⟩ := by rcases hua with h | h; omega; exact h
  have hnews : ∀ j t, [Value.int .i64 a][j]? = some t → w.cell? ((⟨ub, uoff, none⟩ : Addr).add j) = some t := fun j t hj => by
    rcases j with _ | j
    · cases hj
      have := hu.2 0 (by omega)
      rw [Addr.add_eq _ rfl]; simpa [cad, ints] using this
    · simp at hj
  have eb : (n.toNat + 1) * b ≤ 140737488355328 := by
    have : (((n.toNat + 1) * b : Nat) : Int) = b * (n + 1) := by rw [Int.natCast_mul, Int.natCast_add, Int.toNat_of_nonneg h0, Int.mul_comm]; rfl
    omega
  have h' := hS
  rw [split_at hi] at h'
  have key : ∃ q w', (∀ ty : TypeId, (Builtin.append_ #[T, T] ty #[v, .slice (some ⟨ub, uoff, none⟩) 1 ucap]).run P w = .ok q w') ∧ (Frame.dq E q (n + 1) (snoc f n a)).holds w' ∧ (∀ k, k < w.heap.size → ¬ (Frame.dq E v n f).has k → w'.heap[k]? = w.heap[k]?) ∧ w'.tape = w.tape ∧ w'.os = w.os ∧ w'.output = w.output ∧ w.heap.size ≤ w'.heap.size ∧
      (∀ g, (Frame.dq E q (n + 1) (snoc f n a)).has g → (Frame.dq E v n f).has g ∨ w.heap.size ≤ g) := by
    have hn63 : n.toNat + 1 ≤ maxLen := by unfold maxLen; omega
    have grown : ∀ (old : Nat), old < n.toNat + 1 → ∀ (zs : List Value), zs.length = n.toNat → (∀ k : Nat, (k : Int) < n → zs[k]? = some (.int .i64 (f k))) →
        (Frame.dq E (.slice (some ⟨w.heap.size, 0, none⟩) (n.toNat + 1) (grownCap w (n.toNat + 1) old E)) (n + 1) (snoc f n a)).holds (w.drew.alloc (.cells (zs.toArray ++ [Value.int .i64 a].toArray ++ Builtin.zeroCells zv.cells (grownCap w (n.toNat + 1) old E - (n.toNat + 1))) E)) := fun old ho zs hzl hzs => by
      have hge := grownCap_ge w (n.toNat + 1) old E
      have hcm : grownCap w (n.toNat + 1) old E ≤ maxLen := grownCap_le_maxLen w (n.toNat + 1) old E hn63
      refine ⟨by omega, hnm, .inr ⟨w.heap.size, 0, _, _, by rw [show (n + 1).toNat = n.toNat + 1 by omega], heap_alloc_new w.drew _, by omega, hcm, ?_, fun k hk => ?_⟩⟩
      · simp only [Array.size_append, List.size_toArray, size_zeroCells, hz, hzl, List.length_cons, List.length_nil]; omega
      · have e1 : (zs.toArray ++ [Value.int .i64 a].toArray ++ Builtin.zeroCells zv.cells (grownCap w (n.toNat + 1) old E - (n.toNat + 1)))[0 + k]? = (zs ++ [Value.int .i64 a])[k]? := by
          rw [Nat.zero_add, Array.getElem?_append_left (by simp; omega)]; simp
        rw [e1, List.getElem?_append]
        by_cases hk2 : (k : Int) < n
        · rw [if_pos (by omega), hzs k hk2, snoc_lt hk2]
        · rw [if_neg (by omega), show k - zs.length = 0 by omega, snoc_at hk2]; rfl
    rcases hd with ⟨rfl, rfl⟩ | ⟨g, off, cap, cur, rfl, hg, h2, h3, h4, h5⟩
    · refine ⟨_, _, fun ty => run_append_nil (P := P) w T ty E inf zv hut hinf hzz ⟨ub, uoff, none⟩ 1 ucap [Value.int .i64 a] (by rw [hsz]; rfl) hnews (by omega) (by omega) (by rw [hby]; omega), ?_, fun k hk _ => heap_alloc_old w.drew _ hk, rfl, rfl, rfl, by simp, fun g ⟨_, _, _, e, eb⟩ => by cases e; exact .inr (Nat.le_of_eq eb)⟩
      have := grown 0 (by omega) [] rfl (fun k hk => by omega)
      simpa using this
    · by_cases hroom : n.toNat + 1 ≤ cap
      · have hcell : ∀ k, k < cur.size → w.cell? ⟨g, k, none⟩ = cur[k]? := fun k _ => cell_of_row w g k cur E (0, 0) hg
        refine ⟨_, _, fun ty => run_append_room_cells (P := P) w T ty E inf hut hinf g off n.toNat cap ⟨ub, uoff, none⟩ 1 ucap [Value.int .i64 a] (by rw [hsz]; rfl) hnews (fun u hu => by simp at hu; subst hu; rfl) hroom (fun j hj => by
            simp at hj; subst hj
            rw [hsz, Nat.mul_one, hcell _ (by omega)]; simp; omega) (fun j hj => by
            simp at hj; subst hj
            simp [World.frozen?, hg]), ?_, fun k hk hne => ?_, rfl, rfl, rfl, ?_, fun g' ⟨_, _, _, e, eb⟩ => .inl (by cases e; exact ⟨_, _, _, rfl, eb⟩)⟩
        · refine ⟨by omega, hnm, .inr ⟨g, off, cap, cur.setIfInBounds (off + n.toNat) (.int .i64 a), by rw [show (n + 1).toNat = n.toNat + 1 by omega], ?_, by omega, h3, by simp; omega, fun k hk => ?_⟩⟩
          · simp [World.setCells, World.setCell, Array.getElem?_modify, hg, hsz]
          · rw [Array.getElem?_setIfInBounds]
            by_cases hk2 : (k : Int) < n
            · rw [if_neg (by omega), h5 k hk2, snoc_lt hk2]
            · rw [if_pos (by omega), if_pos (by omega), snoc_at hk2]
        · exact Below.heap_setCell _ _ _ _ fun e => hne (by rw [e]; exact ⟨_, _, _, rfl, rfl⟩)
        · simp [World.setCells, World.setCell]
      · have hol : ∀ k : Nat, (k : Int) < n → (listOf f n |>.map (Value.int .i64))[k]? = some (.int .i64 (f k)) := fun k hk => by
          have hk3 : k < n.toNat := by omega
          simp [listOf, hk3]
        have hll : (listOf f n |>.map (Value.int .i64)).length = n.toNat := by simp [listOf]
        refine ⟨_, _, fun ty => run_append_grow (P := P) w T ty E inf zv hut hinf hzz ⟨g, off, none⟩ n.toNat cap (listOf f n |>.map (Value.int .i64)) (by rw [hsz, hll]; omega) (fun j t hj => ?_) ⟨ub, uoff, none⟩ 1 ucap [Value.int .i64 a] (by rw [hsz]; rfl) hnews (by omega) (by omega) (growslice_fits (by omega) (by rw [hby]; exact eb)), ?_, fun k hk _ => heap_alloc_old w.drew _ hk, rfl, rfl, rfl, by simp, fun g ⟨_, _, _, e, eb⟩ => by cases e; exact .inr (Nat.le_of_eq eb)⟩
        · have hj2 : j < n.toNat := by
            have := (List.getElem?_eq_some_iff.1 hj).1; omega
          rw [hol j (by omega)] at hj; cases hj
          rw [Addr.add_eq _ rfl, cell_of_row w g _ cur E (0, 0) hg]; exact h5 j (by omega)
        · exact grown cap (by omega) _ hll hol
  obtain ⟨q, w', hr, hq, hb1, ht1, ho1, hp1, hs1, hh⟩ := key
  refine ⟨q, w', fun ρ h => ?_, ?_, (Frame.dq.row hq).slh⟩
  · simp [execOp, ho, resolve, invoke, builtin, h _ _ hx, h _ _ hy, hr]
  · rw [set_at hi]
    exact h'.turn hb1 ht1 ho1 hp1 hs1 hq hh
end
end Go.Proofs.Gw
namespace Go.Proofs.YtkichmnjjblodaaGreat
open Go Go.RowKit Go.Proofs.Gw
theorem cl_81 : calledT Tryz.prog 81 = true := by kernel_rfl
theorem pl_137 : plainT Tryz.prog 137 = true := by kernel_rfl
theorem pl_31 : plainT Tryz.prog 31 = true := by kernel_rfl
theorem pl_39 : plainT Tryz.prog 39 = true := by kernel_rfl
theorem bun_rows {E : TypeId} {n : Int} {vv : Int → Value} {ln : Int → Int} {f : Int → Int → Int} {w : World} {l : List Ent} (h : (Frame.bun l).holds w) (i : Nat) (hi : l[i]? = some (.sem (Frame.rows E n vv ln f))) {k : Int} (k0 : 0 ≤ k) (k1 : k < n) : Row w (vv k) 1 (ln k) (ints (f k)) := ((h.1 _ (List.mem_of_getElem? hi)).1 k k0 k1).row
theorem bun_sem {w : World} {l : List Ent} {F : Go.Proofs.Gw.Frame} (h : (Frame.bun l).holds w) (i : Nat) (hi : l[i]? = some (.sem F)) : F.holds w := h.1 _ (List.mem_of_getElem? hi)
theorem c_fcl  : ∀ (t : Tr) {F : Go.Proofs.Gw.Frame} {vL vD : Value} {p : Prob} {b : Int} {gl gs gp gw : Nat} {vp : Value} {q : Int} {f : Int → Int} {pre : List Int} (w0 w : World) (hS : Sat w0 w [.blk gl [.func (.func 16) #[] #[]], .blk gs [.func (.func 13) #[] #[]], .blk gp [vp], .blk gw [.func (.func 81) #[] #[.pointer (some ⟨gl, 0, none⟩), .pointer (some ⟨gs, 0, none⟩), .pointer (some ⟨gp, 0, none⟩), .pointer (some ⟨gw, 0, none⟩)]], .sem (Frame.dq 3 vp q f), .sem F]) (hP : ∀ w1, Below w0.heap.size w0 w1 → F.holds w1 → PAt w1 vL vD p) (hK : KAt w0 t) (hV : LvAt w0 t) (hv : Slh vp q) (hI : IsL q f pre) (hq : q + b ≤ 1001),
    Calls Tryz.prog 81 [.agg #[vL, vD, .int .i64 p.stock, .int .i64 p.kerf, .int .i64 b], .agg #[.int .i64 t.s, t.vK, t.vL], .pointer (some ⟨gl, 0, none⟩), .pointer (some ⟨gs, 0, none⟩), .pointer (some ⟨gp, 0, none⟩), .pointer (some ⟨gw, 0, none⟩)].toArray w fun e w => ∃ v, e = .returned v ∧ ∃ v1 q1 f1, v = B (wrT t p b ≠ none) ∧ Slh v1 q1 ∧ IsL q1 f1 (pre ++ (wrT t p b).getD []) ∧ Sat w0 w [.blk gl [.func (.func 16) #[] #[]], .blk gs [.func (.func 13) #[] #[]], .blk gp [v1], .blk gw [.func (.func 81) #[] #[.pointer (some ⟨gl, 0, none⟩), .pointer (some ⟨gs, 0, none⟩), .pointer (some ⟨gp, 0, none⟩), .pointer (some ⟨gw, 0, none⟩)]], .sem (Frame.dq 3 v1 q1 f1), .sem F] := by
  refine Tr.ind fun t ih => ?_
  intro F vL vD p b gl gs gp gw vp q f pre w0 w hS hP hK hV hv hI hq
  have hn := hK.row.slh.n0; have hn1 := hK.row.slh.n1; have hln := hV.leaf.row.slh.n0; have hln1 := hV.leaf.row.slh.n1
  have h := hP w hS.below (hS.holds _ (List.mem_of_getElem? (i := 5) rfl))
  have hv0 := hv.n0; have hv1 := hv.n1
  refine zenF Tryz.func81 Tryz.ntmps81 ?_
  refine zsr ?_
  refine zla (xbx (cs := [_, _, _, _, _]) hS) ?_; rintro _ w ⟨g1, rfl, hS⟩
  replace hS := hS.n7
  refine zla (xbx (cs := [_, _, _]) hS) ?_; rintro _ w ⟨g2, rfl, hS⟩
  replace hS := hS.n8
  refine zlv xas ?_
  refine zlt <| zsq <| zsr ?_
  refine zlv (xfb 1 fd_54_1) ?_
  refine zlv (xlb 7 pl_52 hS) ?_
  refine zlv (xln sl_52 (hK).row.slh) ?_
  refine zlv xeql ?_
  refine zlt ?_
  refine zcif ?_ ?_ <;> intro hc
  ·
   refine zsr ?_
   refine zlv (xlb 0 pl_39 hS) ?_
   refine zlv (xls 6 st_34 hS) ?_
   refine zlv (xfb 2 fd_54_2) ?_
   refine zlv (xlb 7 pl_22 hS) ?_
   refine zlc (xc0 cl_16) (c_leaf (p := p) (b := b) w (hP _ hS.below (hS.holds _ (List.mem_of_getElem? (i := 5) rfl))) ((hV).leaf.below hS.below) (hV).room) ?_; rintro _ w ⟨rfl, hS'⟩
   replace hS := hS.cmp hS'; clear hS'
   refine zs2 ?_
   refine zlt <| zrt <| ztr <| zf1 ⟨_, rfl, ?_⟩
   have hw9 : t.n = 0 := by omega
   exact ⟨_, _, _, (B_congr (wr_ne hw9)).symm, hv, by rw [wr_nil hw9]; simpa using hI, hS.pk [0, 1, 2, 3, 4, 5]⟩
  refine zsk <| ztn <| zsr ?_
  refine zlv (xlb 1 pl_31 hS) ?_
  refine zlv (xls 6 st_34 hS) ?_
  refine zlv (xfb 0 fd_54_0) ?_
  refine zlv (xlb 7 pl_3 hS) ?_
  refine zlc (xc0 cl_13) (c_split (p := p) (b := b) (wi := t.s) w (hP _ hS.below (hS.holds _ (List.mem_of_getElem? (i := 5) rfl)))) ?_; rintro _ w ⟨vgg3, vvg3, rfl, hvgg3, hS'⟩
  replace hS : Sat w0 w [.blk gl [.func (.func 16) #[] #[]], .blk gs [.func (.func 13) #[] #[]], .blk gp [vp], .blk gw [.func (.func 81) #[] #[.pointer (some ⟨gl, 0, none⟩), .pointer (some ⟨gs, 0, none⟩), .pointer (some ⟨gp, 0, none⟩), .pointer (some ⟨gw, 0, none⟩)]], .sem (Frame.dq 3 vp q f), .sem F, .blk g1 [vL, vD, .int .i64 p.stock, .int .i64 p.kerf, .int .i64 b], .blk g2 [.int .i64 t.s, t.vK, t.vL], .own vgg3 5 34 (partsN p b t.s) (gcells vvg3 p.stock p.kerf (b - 1)), .sem (Frame.rows 3 (2 * (partsN p b t.s)) vvg3 (fun _ => p.m) (gfn p (MX p t.s)))] := hS.comp hS'; clear hS'
  have hrsg3 : ∀ k, 0 ≤ k → k < 2 * (partsN p b t.s) → Slh (vvg3 k) p.m := fun k k0 k1 => hS.slhIn 9 rfl k0 k1
  refine zs5 ?_
  refine zlt <| zsq <| zsr ?_
  refine zs3 ?_
  refine zlb 33 ?_ ?_ <;> intro hc
  ·
   iterate 6 refine zlo ?_
   refine zlv xpt ?_
   refine zlt <| zct <| zsr ?_
   refine zlv xas ?_
   refine zlt <| zrt <| ztr <| zf1 ⟨_, rfl, ?_⟩
   have hw9 : wrT t p b = some [] := wr_bad (by omega) (by rintro ⟨q1, q2⟩; first | exact absurd q1 ‹¬ SplOk p b t.s› | omega)
   exact ⟨_, _, _, (B_true (show wrT t p b ≠ none by rw [hw9]; exact Option.some_ne_none _)).symm, hv, by rw [hw9]; simpa using hI, hS.pk [0, 1, 2, 3, 4, 5]⟩
  refine zlv xmv ?_
  refine zlv (xln sl_29 hvgg3) ?_
  refine zlv (xfb 1 fd_54_1) ?_
  refine zlv (xlb 7 pl_52 hS) ?_
  refine zlv (xln sl_52 (hK).row.slh) ?_
  refine zs2 ?_
  refine zlt ?_
  refine zcif ?_ ?_ <;> intro hc
  ·
   refine zsr ?_
   refine zlv xas ?_
   refine zlt <| zrt <| ztr <| zf1 ⟨_, rfl, ?_⟩
   have hw9 : wrT t p b = some [] := wr_bad (by omega) (by rintro ⟨q1, q2⟩; first | exact absurd q1 ‹¬ SplOk p b t.s› | omega)
   exact ⟨_, _, _, (B_true (show wrT t p b ≠ none by rw [hw9]; exact Option.some_ne_none _)).symm, hv, by rw [hw9]; simpa using hI, hS.pk [0, 1, 2, 3, 4, 5]⟩
  refine zsk <| ztn <| zsq <| zsr ?_
  refine zlv (xfb 1 fd_54_1) ?_
  refine zlv (xlb 7 pl_52 hS) ?_
  refine zlv (xln sl_52 (hK).row.slh) ?_
  refine zlv xmv ?_
  refine zlt <| zbk ?_
  have hsp : SplOk p b t.s := by first | assumption | exact Classical.not_not.1 ‹_›
  have hkn : partsN p b t.s = t.n := by omega
  have hsb := hsp.1.2; have hpn := hvgg3.n1; have hv0 := hv.n0
  refine zlp (fun mm M w => ∃ (vp2 : Value) (q2 : Int) (f2 : Int → Int) (i : Int), mm = ((t.n - i).toNat) ∧ (0 ≤ i) ∧ (i ≤ t.n) ∧ (wrT t p b = fw (kidW t p b) (t.n - i).toNat i) ∧ (Slh vp2 q2) ∧ (IsL q2 f2 pre) ∧ (q2 = q) ∧ M = [(4, .pointer (some ⟨gp, 0, none⟩)), (5, .pointer (some ⟨gw, 0, none⟩)), (9, vgg3), (42, t.vK), (43, .int .i64 t.n), (44, .int .i64 i)] ∧ Sat w0 w [.blk gl [.func (.func 16) #[] #[]], .blk gs [.func (.func 13) #[] #[]], .blk gp [vp2], .blk gw [.func (.func 81) #[] #[.pointer (some ⟨gl, 0, none⟩), .pointer (some ⟨gs, 0, none⟩), .pointer (some ⟨gp, 0, none⟩), .pointer (some ⟨gw, 0, none⟩)]], .sem (Frame.dq 3 vp2 q2 f2), .sem F, .blk g1 [vL, vD, .int .i64 p.stock, .int .i64 p.kerf, .int .i64 b], .blk g2 [.int .i64 t.s, t.vK, t.vL], .own vgg3 5 34 (partsN p b t.s) (gcells vvg3 p.stock p.kerf (b - 1)), .sem (Frame.rows 3 (2 * (partsN p b t.s)) vvg3 (fun _ => p.m) (gfn p (MX p t.s)))]) ⟨vp, q, f, 0, rfl, (by omega), (by omega), ?_, ?_, ?_, ?_, rfl, hS⟩ ?_
  ·
   exact wr_kids (by omega) hsp hkn
  ·
   exact hv
  ·
   exact hI
  ·
   rfl
  clear hS w
  rintro mm M w ⟨vp2, q2, f2, i, rfl, h0, h1, hfw, hvp2, hI2, hq2, rfl, hS⟩
  refine zsr ?_
  refine zlv xlss ?_
  refine zlt <| zsq ?_
  refine zcif ?_ ?_ <;> intro hc
  ·
   refine zsk <| ztn <| zsq <| zbk <| zsr ?_
   refine zlv xmv ?_
   refine zlv (xix (kk := 3 * i) sl_52 (hK).row.slh) ?_
   refine zlv (xlw (cs := [.int .i64 ((t.kid i).s), (t.kid i).vK, (t.kid i).vL]) st_54 ((hK).row.below hS.below) (kcells_at (q := 3 * i) (i := i) _ (by omega))) ?_
   refine zla (xal (cs := [_, _, _]) el_54 hS) ?_; rintro _ w ⟨g4, rfl, hS⟩
   replace hS := hS.n11
   refine zlv xas ?_
   refine zle (xsw 10 st_54 hS (hd := (ones_cons rfl (ones_cons ((hK).sub (i := i) (by omega) (by omega)).row.slh.one (ones_cons ((hV).sub (i := i) (by omega) (by omega)).leaf.row.slh.one ones_nil))))) ?_; clear hS; rintro w hS
   replace hS := hS.n11
   refine zlz ?_
   refine zlv (xlb 2 pl_22 hS) ?_
   refine zlv xmv ?_
   refine zla (xli (n := 1) (len := 1) (pv := [(0, .int .i64 i)]) (cs := [.int .i64 i]) (c := ints (fun _ => i)) sl_22 el_3 hS) ?_; rintro v1 w ⟨hS, hv1⟩
   replace hS := hS.n12
   refine zla (xdqa 4 sl_22 el_3 hS (hS.rowN 11 rfl)) ?_; rintro v2 w ⟨hS, hv2⟩
   replace hS := hS.n12
   refine zle (xsb 2 pl_22 hS (hv := hv2.one)) ?_; clear hS; rintro w hS
   replace hS := hS.n12
   refine zlt <| zsq <| zsq ?_
   refine zdst [0, 1, 3, 5, 6, 7, 8, 9, 10, 11] [0, 1, 3, 5, 6, 7, 8, 9, 10, 11] 1000 mx_ hS ?_; clear hS; intro w hS
   refine zdla 0 (fun w hS => (xlb 2 pl_137 hS)) ?_
   refine zdv 1 (fun _ => xmv) ?_
   refine zdv 2 (fun _ => xmv) ?_
   refine zdv 3 (fun _ => (xix (kk := 5 * i) sl_29 hvgg3)) ?_
   refine zdla 4 (fun w hS => (xlw (cs := [(vvg3 (2 * i)), (vvg3 (2 * i + 1)), .int .i64 p.stock, .int .i64 p.kerf, .int .i64 (b - 1)]) st_34 (hS.rowN 6 rfl) (gcells_at (q := 5 * i) (i := i) vvg3 p.stock p.kerf (b - 1) (by omega)))) ?_
   refine zdla 5 (fun w hS => (xls 8 st_54 hS)) ?_
   refine zdc 6 (xcc (vs := [_, _]) cl_81) (ih i (by omega) (by omega) (pre := pre ++ [i]) (p := (partP p t.s i)) (b := (b - 1)) w0 w (Sat.bundle (l1 := [_, _, _, _, _]) (hS.pk [0, 1, 2, 3, 4, 5, 6, 7, 8, 9, 10, 11])) (fun w1 hb hF => part_at (vv := vvg3) hsp (hP w1 hb (bun_sem hF 0 rfl)) (bun_rows hF 4 rfl (k := 2 * i) (by omega) (by omega)) (bun_rows hF 4 rfl (k := 2 * i + 1) (by omega) (by omega)) (by omega) (by omega)) ((hK).sub (i := i) (by omega) (by omega)) ((hV).sub (i := i) (by omega) (by omega)) hv2 (IsL.snoc hI2) (by omega)) ?_; rintro _ w ⟨v1z1, q1z1, f1z1, rfl, hvz1, hiz1, hS⟩
   replace hS := Sat.unbundle (l1 := [_, _, _, _, _]) (l3 := []) hS
   replace hS := hS.n12
   refine ⟨⟨fun _ => hS.pk [0, 1, 3, 5, 6, 7, 8, 9, 10, 11], hS.pk [0, 1, 3, 5, 6, 7, 8, 9, 10, 11]⟩, ?_⟩
   refine zdd <| ztn ?_
   refine zcif ?_ ?_ <;> intro hc
   ·
    refine zsr ?_
    refine zlv xas ?_
    refine zlt <| zrt <| ztr <| zbr <| ztr <| ztr <| zbr <| ztr <| zf1 ⟨_, rfl, ?_⟩
    obtain ⟨l9, hl9⟩ := Option.ne_none_iff_exists'.1 ‹(wrT (t.kid i) (partP p t.s i) (b - 1)) ≠ none›
    rw [hl9] at hiz1
    have hw9 : wrT t p b = some (i :: l9) := hfw.trans (fw_yes (by omega) hl9)
    exact ⟨_, _, _, (B_true (show wrT t p b ≠ none by rw [hw9]; exact Option.some_ne_none _)).symm, hvz1, by rw [hw9]; rw [List.append_assoc] at hiz1; exact hiz1, hS.pk [0, 1, 2, 3, 4, 5]⟩
   refine zsk <| ztn <| zrg ?_
   iterate 2 refine zlv (xlb 2 pl_22 hS) ?_
   have hqz := hiz1.1; have hqy := hvz1.n1; rw [List.length_append, List.length_append, List.length_singleton] at hqz
   refine zlv (xln sl_22 hvz1) ?_
   refine zlv (xsub (r := q1z1 - 1)) ?_
   refine zlv (xsl_hi (i := q1z1 - 1) (q1z1 - 1).toNat sl_22 hvz1 (Frame.dq.roomy (hS.dqOf 4 rfl))) ?_
   have hdqs1 := (dqpre_slh (e := q1z1 - 1) hvz1 (by omega) (by omega))
   replace hS := hS.dqpre (n := q1z1) 4 (q1z1 - 1).toNat (by omega)
   replace hS := hS.dqn 4 (by omega : ((q1z1 - 1).toNat : Int) = q1z1 - 1)
   replace hS := hS.n12
   refine zle (xsb 2 pl_22 hS (hv := hdqs1.one)) ?_; clear hS; rintro w hS
   replace hS := hS.n12
   refine zln <| zbn <| ztn <| zrg ?_
   refine zlv (xadd (r := i + 1)) ?_
   refine zlv xmv ?_
   refine zln ?_
   rw [show (wrT (t.kid i) (partP p t.s i) (b - 1)) = none from Classical.byContradiction ‹¬ ((wrT (t.kid i) (partP p t.s i) (b - 1)) ≠ none)›] at hiz1
   simp only [Option.getD_none, List.append_nil] at hiz1
   refine zlq ⟨(preV v1z1 (q1z1 - 1).toNat), q1z1 - 1, f1z1, i + 1, rfl, (by omega), (by omega), ?_, ?_, ?_, ?_, rfl, hS.pk [0, 1, 2, 3, 4, 5, 6, 7, 8, 9]⟩
   ·
    rw [hfw]; exact fw_no (by omega) (show kidW t p b i = none from Classical.byContradiction ‹¬ ((wrT (t.kid i) (partP p t.s i) (b - 1)) ≠ none)›)
   ·
    exact hdqs1
   ·
    exact IsL.init (i := i) hiz1
   ·
    have h8 := hiz1.1; have h9 := hI2.1; rw [List.length_append, List.length_singleton] at h8; omega
  refine zxt <| ztx <| ztx <| zbh <| ztn <| zsr ?_
  refine zlv xas ?_
  refine zlt <| zrt <| zf1 ⟨_, rfl, ?_⟩
  have hw9 : wrT t p b = none := hfw.trans (fw_end (by omega))
  exact ⟨_, _, _, (B_false (show ¬ wrT t p b ≠ none by rw [hw9]; exact fun h => h rfl)).symm, hvp2, by rw [hw9]; simpa using hI2, hS.pk [0, 1, 2, 3, 4, 5]⟩
end Go.Proofs.YtkichmnjjblodaaGreat
namespace Go.Proofs.YtkichmnjjblodaaGreat
open Go Go.RowKit Go.Proofs.Gw
theorem cl_50 : calledT Tryz.prog 50 = true := by kernel_rfl
theorem cl_51 : calledT Tryz.prog 51 = true := by kernel_rfl
theorem cl_68 : calledT Tryz.prog 68 = true := by kernel_rfl
theorem el_137 : elemT Tryz.prog 137 = some (.nilFunc, 1, 8) := by kernel_rfl
noncomputable def chkE (t : Tr) (p : Prob) (b : Int) : Int := @ite _ (PossP p b ∧ ValidT t) (Classical.propDecidable _) (match wrT t p b with | none => 0 | some _ => 21) 1
noncomputable def chkL (t : Tr) (p : Prob) (b : Int) : List Int := @ite _ (PossP p b ∧ ValidT t) (Classical.propDecidable _) ((wrT t p b).getD []) []
theorem chk_no {t : Tr} {p : Prob} {b : Int} (h : ¬ (PossP p b ∧ ValidT t)) : chkE t p b = 1 ∧ chkL t p b = [] := ⟨if_neg h, if_neg h⟩
theorem chk_bad {t : Tr} {p : Prob} {b : Int} (h1 : PossP p b) (h2 : ValidT t) (h : wrT t p b ≠ none) : chkE t p b = 21 ∧ chkL t p b = (wrT t p b).getD [] := by
  refine ⟨?_, if_pos ⟨h1, h2⟩⟩
  obtain ⟨l, hl⟩ := Option.ne_none_iff_exists'.1 h
  unfold chkE; rw [if_pos ⟨h1, h2⟩, hl]
theorem chk_ok {t : Tr} {p : Prob} {b : Int} (h1 : PossP p b) (h2 : ValidT t) (h : wrT t p b = none) : chkE t p b = 0 ∧ chkL t p b = [] := by
  refine ⟨?_, ?_⟩
  · unfold chkE; rw [if_pos ⟨h1, h2⟩, h]
  · unfold chkL; rw [if_pos ⟨h1, h2⟩, h]; rfl
theorem zfcp {P : Program} {L : List (Nat × Value)} {w : World} {n : Nat} {fn : Func} {R : Ending → World → Prop} {T : TypeId} {s t : Nat} {a1 : Addr} {v1 v2 : Value} (t1 : plainT P T = true) (c1 : w.cell? a1 = some v1) (h : R (.returned (.tuple #[v1, v2])) w)
    (hr : fn.results = #[.cell s T, .tmp t] := by exact rfl) (h1 : lk L s = some (.pointer (some a1)) := by exact rfl) (h2 : lk L t = some v2 := by exact rfl) : Ge n [] (bodyPost P fn R) .ret L w := fun a hF => by
  refine ⟨hF.defers, _, ?_, h⟩
  obtain ⟨⟨_, _, q1⟩, _⟩ := plain_of (w := w) t1
  have e1 := hF.get s _ h1
  have e2 := hF.get t _ h2
  rw [Array.getD_eq_getD_getElem?] at e1 e2
  simp [results, hr, e1, e2, asAddr, loadVar, q1, c1]
theorem c_pchk {t : Tr} {vL vD : Value} {p : Prob} {b : Int} (w0 : World) (h : PAt w0 vL vD p) (hb : PossP p b) (hK : KAt w0 t) (hV : LvAt w0 t) :
    Calls Tryz.prog 50 [.agg #[vL, vD, .int .i64 p.stock, .int .i64 p.kerf, .int .i64 b], .agg #[.int .i64 t.s, t.vK, t.vL], .func (.func 13) #[] #[], .func (.func 16) #[] #[]].toArray w0 fun e w => ∃ v, e = .returned v ∧ ∃ r q f, v = .tuple #[r, .int .i64 (chkE t p b)] ∧ Slh r q ∧ IsL q f (chkL t p b) ∧ Sat w0 w [.sem (Frame.dq 3 r q f)] := by
  have hn := hK.row.slh.n0; have hn1 := hK.row.slh.n1; have hln := hV.leaf.row.slh.n0; have hln1 := hV.leaf.row.slh.n1
  have hm := h.L.slh.n0; have hm1 := h.L.slh.n1; have hd := h.D.slh.n0; have hd1 := h.D.slh.n1; have hs := h.is; have hk := h.ik
  have hb1 := hb.2
  refine zenG Tryz.func50 Tryz.ntmps50 fun w hS => ?_
  refine zsr ?_
  refine zla (xbx (cs := [_, _, _, _, _]) hS) ?_; rintro _ w ⟨g1, rfl, hS⟩
  replace hS := hS.n1
  refine zla (xbx (cs := [_, _, _]) hS) ?_; rintro _ w ⟨g2, rfl, hS⟩
  replace hS := hS.n2
  refine zla (xbx (cs := [_]) hS) ?_; rintro _ w ⟨g3, rfl, hS⟩
  replace hS := hS.n3
  refine zla (xbx (cs := [_]) hS) ?_; rintro _ w ⟨g4, rfl, hS⟩
  replace hS := hS.n4
  refine zla (xal (cs := [_]) el_22 hS) ?_; rintro _ w ⟨g5, rfl, hS⟩
  replace hS := hS.n5
  refine zlv xas ?_
  refine zlt <| zsq <| zsr ?_
  refine zlv (xls 1 st_54 hS) ?_
  refine zlc (xc0 cl_68) (c_valid35 (t := t) w (KAt.below hS.below (hK)) (LvAt.below hS.below (hV))) ?_; rintro _ w ⟨rfl, hS'⟩
  replace hS := hS.cmp hS'; clear hS'
  refine zlv xnot ?_
  refine zlt ?_
  refine zcif ?_ ?_ <;> intro hc
  ·
   refine zsr ?_
   refine zle (xsb 4 pl_22 hS) ?_; clear hS; rintro w hS
   replace hS := hS.n5
   refine zlv xas ?_
   refine zlt <| zrt <| ztr <| zfcp pl_22 (hS.cellN 4 rfl rfl) ⟨_, rfl, ?_⟩
   obtain ⟨h8, h9⟩ := chk_no (t := t) (p := p) (b := b) (fun hh => ‹¬ ValidT t› hh.2)
   exact ⟨_, 0, fun _ => 0, by rw [h8], slh_nil, by rw [h9]; exact IsL.nil, (hS.dqnil 3 (fun _ => 0)).sub (.cons _ (.cons _ (.cons _ (.cons _ (.cons _ (.cons_cons _ .slnil))))))⟩
  refine zsk <| ztn <| zsr ?_
  refine zla (xal (cs := [_]) el_137 hS) ?_; rintro _ w ⟨g6, rfl, hS⟩
  replace hS := hS.n6
  refine zlz ?_
  refine zlv xmf ?_
  refine zle (xsb 5 pl_137 hS) ?_; clear hS; rintro w hS
  replace hS := hS.n6
  refine zlt <| zsq <| zsr ?_
  refine zlv (xlb 5 pl_137 hS) ?_
  replace hS := hS.dqnil 3 (fun _ => 0)
  replace hS := hS.n7
  refine zlv (xls 0 st_34 hS) ?_
  refine zlv (xls 1 st_54 hS) ?_
  refine zlc (xcc (vs := [_, _]) cl_81) (c_fcl t (F := Frame.bun [.blk g1 [vL, vD, .int .i64 p.stock, .int .i64 p.kerf, .int .i64 b], .blk g2 [.int .i64 t.s, t.vK, t.vL]]) (pre := []) (p := p) (b := b) w0 w (Sat.bundle (l1 := [_, _, _, _, _]) (hS.pk [3, 2, 4, 5, 6, 0, 1])) (fun w1 hb _ => h.below hb) hK hV slh_nil IsL.nil (by omega)) ?_; rintro _ w ⟨v1z1, q1z1, f1z1, rfl, hvz1, hiz1, hS⟩
  replace hS := Sat.unbundle (l1 := [_, _, _, _, _]) (l3 := []) hS
  replace hS := hS.n7
  refine zlt ?_
  refine zcif ?_ ?_ <;> intro hc
  ·
   refine zsr ?_
   refine zlv (xlb 2 pl_22 hS) ?_
   refine zle (xsb 2 pl_22 hS (hv := hvz1.one)) ?_; clear hS; rintro w hS
   replace hS := hS.n7
   refine zlv xas ?_
   refine zlt <| zrt <| ztr <| zfcp pl_22 (hS.cellN 2 rfl rfl) ⟨_, rfl, ?_⟩
   obtain ⟨h8, h9⟩ := chk_bad hb (Classical.not_not.1 ‹¬ ¬ ValidT t›) ‹wrT t p b ≠ none›
   exact ⟨_, _, _, by rw [h8], hvz1, by rw [h9]; exact hiz1, hS.pk [4]⟩
  refine zsk <| ztn <| zsr ?_
  refine zle (xsb 2 pl_22 hS) ?_; clear hS; rintro w hS
  replace hS := hS.n7
  refine zlv xas ?_
  refine zlt <| zrt <| zfcp pl_22 (hS.cellN 2 rfl rfl) ⟨_, rfl, ?_⟩
  obtain ⟨h8, h9⟩ := chk_ok hb (Classical.not_not.1 ‹¬ ¬ ValidT t›) (Classical.byContradiction ‹¬ (wrT t p b ≠ none)›)
  exact ⟨_, 0, fun _ => 0, by rw [h8], slh_nil, by rw [h9]; exact IsL.nil, (hS.dqnil 3 (fun _ => 0)).sub (.cons _ (.cons _ (.cons _ (.cons _ (.cons _ (.cons _ (.cons _ (.cons_cons _ .slnil))))))))⟩
theorem c_chk {t : Tr} {vL vD : Value} {p : Prob} {b : Int} (w0 : World) (h : PAt w0 vL vD p) (hK : KAt w0 t) (hV : LvAt w0 t) :
    Calls Tryz.prog 21 [.agg #[vL, vD, .int .i64 p.stock, .int .i64 p.kerf, .int .i64 b], .agg #[.int .i64 t.s, t.vK, t.vL]].toArray w0 fun e w => ∃ v, e = .returned v ∧ ∃ r q f, v = .tuple #[r, .int .i64 (chkE t p b)] ∧ Slh r q ∧ IsL q f (chkL t p b) ∧ Sat w0 w [.sem (Frame.dq 3 r q f)] := by
  have hn := hK.row.slh.n0; have hn1 := hK.row.slh.n1; have hln := hV.leaf.row.slh.n0; have hln1 := hV.leaf.row.slh.n1
  have hm := h.L.slh.n0; have hm1 := h.L.slh.n1; have hd := h.D.slh.n0; have hd1 := h.D.slh.n1; have hs := h.is; have hk := h.ik
  refine zenG Tryz.func21 Tryz.ntmps21 fun w hS => ?_
  refine zsr ?_
  refine zla (xbx (cs := [_, _, _, _, _]) hS) ?_; rintro _ w ⟨g1, rfl, hS⟩
  replace hS := hS.n1
  refine zla (xbx (cs := [_, _, _]) hS) ?_; rintro _ w ⟨g2, rfl, hS⟩
  replace hS := hS.n2
  refine zs2 ?_
  refine zlt <| zsq <| zsr ?_
  refine zlv (xls 0 st_34 hS) ?_
  refine zlc (xc0 cl_43) (c_poss (p := p) (b := b) w (h.below hS.below)) ?_; rintro _ w ⟨rfl, hS'⟩
  replace hS := hS.cmp hS'; clear hS'
  refine zlv xnot ?_
  refine zlt ?_
  refine zcif ?_ ?_ <;> intro hc
  ·
   refine zsr ?_
   refine zs2 ?_
   refine zlt <| zrt <| ztr <| zf2 ⟨_, rfl, ?_⟩
   obtain ⟨h8, h9⟩ := chk_no (t := t) (p := p) (b := b) (fun hh => ‹¬ PossP p b› hh.1)
   exact ⟨_, 0, fun _ => 0, by rw [h8], slh_nil, by rw [h9]; exact IsL.nil, (hS.dqnil 3 (fun _ => 0)).sub (.cons _ (.cons _ (.cons_cons _ .slnil)))⟩
  refine zsk <| ztn <| zsr ?_
  refine zlv (xls 0 st_34 hS) ?_
  refine zlv (xls 1 st_54 hS) ?_
  refine zlc (xc0 cl_50) (c_pchk (t := t) (p := p) (b := b) w (h.below hS.below) (Classical.not_not.1 ‹¬ ¬ PossP p b›) (KAt.below hS.below (hK)) (LvAt.below hS.below (hV))) ?_; rintro _ w ⟨rk1, k1, fk1, rfl, hrk1, hik1, hS'⟩
  replace hS : Sat w0 w [.blk g1 [vL, vD, .int .i64 p.stock, .int .i64 p.kerf, .int .i64 b], .blk g2 [.int .i64 t.s, t.vK, t.vL], .sem (Frame.dq 3 rk1 k1 fk1)] := hS.comp hS'; clear hS'
  refine zs4 ?_
  refine zlt <| zrt <| zf2 ⟨_, rfl, ?_⟩
  exact ⟨_, _, _, rfl, hrk1, hik1, hS.pk [2]⟩
theorem c_rchk {t : Tr} {vL vD : Value} {p : Prob} {b : Int} (w0 : World) (h : PAt w0 vL vD p) (hK : KAt w0 t) (hV : LvAt w0 t) :
    Calls Tryz.prog 23 [.agg #[vL, vD, .int .i64 p.stock, .int .i64 p.kerf, .int .i64 b], .agg #[.int .i64 t.s, t.vK, t.vL]].toArray w0 fun e w => ∃ v, e = .returned v ∧ ∃ r q f, v = .tuple #[r, .int .i64 (chkE t p b)] ∧ Slh r q ∧ IsL q f (chkL t p b) ∧ Sat w0 w [.own r 1 3 q (ints f)] := by
  have hn := hK.row.slh.n0; have hn1 := hK.row.slh.n1; have hln := hV.leaf.row.slh.n0; have hln1 := hV.leaf.row.slh.n1
  have hm := h.L.slh.n0; have hm1 := h.L.slh.n1; have hd := h.D.slh.n0; have hd1 := h.D.slh.n1; have hs := h.is; have hk := h.ik
  refine zenG Tryz.func23 Tryz.ntmps23 fun w hS => ?_
  refine zsr ?_
  refine zla (xbx (cs := [_, _, _, _, _]) hS) ?_; rintro _ w ⟨g1, rfl, hS⟩
  replace hS := hS.n1
  refine zla (xbx (cs := [_, _, _]) hS) ?_; rintro _ w ⟨g2, rfl, hS⟩
  replace hS := hS.n2
  refine zs2 ?_
  refine zlt <| zsq <| zsr ?_
  refine zlv (xls 0 st_26 hS) ?_
  refine zlc (xc0 cl_37) (c_rposs (p := p) (b := b) w (h.below hS.below)) ?_; rintro _ w ⟨rfl, hS'⟩
  replace hS := hS.cmp hS'; clear hS'
  refine zs2 ?_
  refine zlb 11 ?_ ?_ <;> intro hc
  ·
   iterate 3 refine zlo ?_
   refine zlv xpt ?_
   refine zlt <| zct <| zsr ?_
   refine zs2 ?_
   refine zlt <| zrt <| ztr <| zf2 ⟨_, rfl, ?_⟩
   obtain ⟨h8, h9⟩ := chk_no (t := t) (p := p) (b := b) (by rintro ⟨q1, q2⟩; first | exact absurd q1 ‹¬ PossP p b› | exact absurd q2 ‹¬ ValidT t›)
   exact ⟨_, 0, fun _ => 0, by rw [h8], slh_nil, by rw [h9]; exact IsL.nil, (hS.addnil 1 3 (ints fun _ => 0)).sub (.cons _ (.cons _ (.cons_cons _ .slnil)))⟩
  refine zlv (xls 1 st_45 hS) ?_
  refine zlc (xc0 cl_51) (c_rvalid35 (t := t) w (KAt.below hS.below (hK)) (LvAt.below hS.below (hV))) ?_; rintro _ w ⟨rfl, hS'⟩
  replace hS := hS.cmp hS'; clear hS'
  refine zs2 ?_
  refine zlt ?_
  refine zcif ?_ ?_ <;> intro hc
  ·
   refine zsr ?_
   refine zs2 ?_
   refine zlt <| zrt <| ztr <| zf2 ⟨_, rfl, ?_⟩
   obtain ⟨h8, h9⟩ := chk_no (t := t) (p := p) (b := b) (by rintro ⟨q1, q2⟩; first | exact absurd q1 ‹¬ PossP p b› | exact absurd q2 ‹¬ ValidT t›)
   exact ⟨_, 0, fun _ => 0, by rw [h8], slh_nil, by rw [h9]; exact IsL.nil, (hS.addnil 1 3 (ints fun _ => 0)).sub (.cons _ (.cons _ (.cons_cons _ .slnil)))⟩
  refine zsk <| ztn <| zsr ?_
  refine zlv (xls 0 st_26 hS) ?_
  refine zlv (xls 1 st_45 hS) ?_
  refine zlc (xc0 cl_52) (c_wrong t (p := p) (b := b) w (h.below hS.below) (KAt.below hS.below (hK)) (LvAt.below hS.below (hV))) ?_; rintro _ w ⟨rq1, q1, fq1, rfl, hrq1, hiq1, hS'⟩
  replace hS : Sat w0 w [.blk g1 [vL, vD, .int .i64 p.stock, .int .i64 p.kerf, .int .i64 b], .blk g2 [.int .i64 t.s, t.vK, t.vL], .own rq1 1 3 q1 (ints fq1)] := hS.comp hS'; clear hS'
  have hbq1 := wr_q hiq1
  refine zs5 ?_
  refine zlt <| zsq <| zsr ?_
  refine zlv xmv ?_
  refine zlt ?_
  refine zcif ?_ ?_ <;> intro hc
  ·
   refine zsr ?_
   refine zs3 ?_
   refine zlt <| zrt <| ztr <| zf2 ⟨_, rfl, ?_⟩
   obtain ⟨h8, h9⟩ := chk_bad (Classical.not_not.1 ‹¬ ¬ PossP p b›) (Classical.not_not.1 ‹¬ ¬ ValidT t›) ‹wrT t p b ≠ none›
   exact ⟨_, _, _, by rw [h8], hrq1, by rw [h9]; exact hiq1, hS.pk [2]⟩
  refine zsk <| ztn <| zsr ?_
  refine zs2 ?_
  refine zlt <| zrt <| zf2 ⟨_, rfl, ?_⟩
  obtain ⟨h8, h9⟩ := chk_ok (Classical.not_not.1 ‹¬ ¬ PossP p b›) (Classical.not_not.1 ‹¬ ¬ ValidT t›) (Classical.byContradiction ‹¬ (wrT t p b ≠ none)›)
  exact ⟨_, 0, fun _ => 0, by rw [h8], slh_nil, by rw [h9]; exact IsL.nil, (hS.addnil 1 3 (ints fun _ => 0)).sub (.cons _ (.cons _ (.cons _ (.cons_cons _ .slnil))))⟩
theorem c_equal35 {va vb : Value} {n m : Int} {f g : Int → Int} (w0 : World) (hA : Row w0 va 1 n (ints f)) (hB2 : Row w0 vb 1 m (ints g)) :
    Calls Tryz.prog 25 [va, vb].toArray w0 fun e w => ∃ v, e = .returned v ∧ v = B (n = m ∧ ∀ k, 0 ≤ k → k < n → f k = g k) ∧ Sat w0 w [] := by
  have hn := hA.slh.n0; have hm1 := hB2.slh.n1; have hn1 := hA.slh.n1
  refine zenG Tryz.func25 Tryz.ntmps25 fun w hS => ?_
  refine zsr ?_
  refine zlv xas ?_
  refine zlt <| zsq <| zsr ?_
  refine zlv xmv ?_
  refine zlv (xln sl_22 hA.slh) ?_
  refine zlv xmv ?_
  refine zlv (xln sl_22 hB2.slh) ?_
  refine zlv xneq ?_
  refine zlt ?_
  refine zcif ?_ ?_ <;> intro hc
  ·
   refine zsr ?_
   refine zlv xas ?_
   refine zlt <| zrt <| ztr <| zf1 ⟨_, rfl, ?_⟩
   exact ⟨false_B (by rintro ⟨h1, h2⟩; first | omega | exact absurd (h2 i h0 (by omega)) (by omega)), hS⟩
  refine zsk <| ztn <| zsq <| zsr ?_
  refine zlv xas ?_
  refine zlt <| zbk <| zlp (fun mm M w => ∃ (i : Int), mm = ((n - i).toNat) ∧ (0 ≤ i) ∧ (i ≤ n) ∧ (∀ k, 0 ≤ k → k < i → f k = g k) ∧ M = [(0, va), (1, vb), (5, .int .i64 i)] ∧ Sat w0 w []) ⟨0, rfl, (by omega), (by omega), ?_, rfl, hS⟩ ?_
  ·
   intro k h0 h1; omega
  clear hS w
  rintro mm M w ⟨i, rfl, h0, h1, hall, rfl, hS⟩
  refine zsq <| zsr ?_
  refine zs2 ?_
  refine zlv (xln sl_22 hA.slh) ?_
  refine zlv xlss ?_
  refine zlt ?_
  refine zcif ?_ ?_ <;> intro hc
  ·
   refine zsk <| ztn <| zsq <| zbk <| zsq ?_
   refine zdst [] [] 1000 mx_ hS ?_; clear hS; intro w hS
   refine zdv 0 (fun _ => xmv) ?_
   refine zdv 1 (fun _ => xmv) ?_
   refine zdv 2 (fun _ => (xix (kk := i) sl_22 hA.slh)) ?_
   refine zdla 3 (fun w hS => (xlr (u := .int .i64 (f i)) pl_3 (hA.below hS.below))) ?_
   refine zdv 4 (fun _ => xmv) ?_
   refine zdv 5 (fun _ => xmv) ?_
   refine zdv 6 (fun _ => (xix (kk := i) sl_22 hB2.slh)) ?_
   refine zdla 7 (fun w hS => (xlr (u := .int .i64 (g i)) pl_3 (hB2.below hS.below))) ?_
   refine zdv 8 (fun _ => xneq) ?_
   refine zdd <| ztn ?_
   refine zcif ?_ ?_ <;> intro hc
   ·
    refine zsr ?_
    refine zlv xas ?_
    refine zlt <| zrt <| zbr <| ztr <| ztr <| zbr <| ztr <| zf1 ⟨_, rfl, ?_⟩
    exact ⟨false_B (by rintro ⟨h1, h2⟩; first | omega | exact absurd (h2 i h0 (by omega)) (by omega)), hS⟩
   refine zsk <| zbn <| ztn <| zrg ?_
   refine zlv xmv ?_
   refine zlv (xadd (r := i + 1)) ?_
   refine zlv xas ?_
   refine zln <| zlq ⟨i + 1, rfl, (by omega), (by omega), ?_, rfl, hS⟩
   ·
    intro k h0' h1'; rcases Int.lt_or_eq_of_le (show k ≤ i by omega) with hk | hk; exact hall k h0' hk; rw [hk]; omega
  refine zxt <| ztx <| ztx <| zbh <| ztn <| zsr ?_
  refine zlv xas ?_
  refine zlt <| zrt <| zf1 ⟨_, rfl, ?_⟩
  exact ⟨true_B ⟨by omega, fun k k0 k1 => hall k k0 (by omega)⟩, hS⟩
end Go.Proofs.YtkichmnjjblodaaGreat
namespace Go.Proofs.Gw
def PermOn (lo hi : Int) (a b : Int → Int) : Prop := ∃ p q : Int → Int, (∀ k, p (q k) = k ∧ q (p k) = k) ∧ (∀ k, ¬ (lo ≤ k ∧ k < hi) → p k = k) ∧ ∀ k, b k = a (p k)
theorem PermOn.refl (lo hi : Int) (a : Int → Int) : PermOn lo hi a a := ⟨id, id, fun _ => ⟨rfl, rfl⟩, fun _ _ => rfl, fun _ => rfl⟩
theorem PermOn.trans {lo hi : Int} {a b c : Int → Int} (h : PermOn lo hi a b) (k : PermOn lo hi b c) : PermOn lo hi a c := by
  obtain ⟨p, q, h1, h2, h3⟩ := h
  obtain ⟨p', q', k1, k2, k3⟩ := k
  refine ⟨fun x => p (p' x), fun x => q' (q x), fun x => ⟨?_, ?_⟩, fun x hx => ?_, fun x => ?_⟩
  · show p (p' (q' (q x))) = x
    rw [(k1 _).1, (h1 _).1]
  · show q' (q (p (p' x))) = x
    rw [(h1 _).2, (k1 _).2]
  · show p (p' x) = x
    rw [k2 x hx, h2 x hx]
  · rw [k3, h3]
theorem PermOn.mono {lo hi lo' hi' : Int} {a b : Int → Int} (h : PermOn lo hi a b) (h0 : lo' ≤ lo) (h1 : hi ≤ hi') : PermOn lo' hi' a b := by
  obtain ⟨p, q, h2, h3, h4⟩ := h
  exact ⟨p, q, h2, fun k hk => h3 k (by omega), h4⟩
theorem PermOn.out {lo hi : Int} {a b : Int → Int} (h : PermOn lo hi a b) {k : Int} (hk : ¬ (lo ≤ k ∧ k < hi)) : b k = a k := by
  obtain ⟨p, q, h2, h3, h4⟩ := h
  rw [h4, h3 k hk]
theorem PermOn.fr {lo hi : Int} {a b : Int → Int} (h : PermOn lo hi a b) {k : Int} (k0 : lo ≤ k) (k1 : k < hi) : ∃ j, lo ≤ j ∧ j < hi ∧ b k = a j := by
  obtain ⟨p, q, h2, h3, h4⟩ := h
  by_cases hj : lo ≤ p k ∧ p k < hi
  · exact ⟨p k, hj.1, hj.2, h4 k⟩
  · have h5 := h3 (p k) hj
    have h6 : p k = k := by
      have := congrArg q h5
      rw [(h2 _).2, (h2 _).2] at this; exact this
    rw [h6] at hj
    exact absurd ⟨k0, k1⟩ hj
theorem PermOn.symm {lo hi : Int} {a b : Int → Int} (h : PermOn lo hi a b) : PermOn lo hi b a := by
  obtain ⟨p, q, h2, h3, h4⟩ := h
  refine ⟨q, p, fun k => ⟨(h2 k).2, (h2 k).1⟩, fun k hk => ?_, fun k => ?_⟩
  · have := congrArg q (h3 k hk)
    rw [(h2 k).2] at this; exact this.symm
  · rw [h4, (h2 k).1]
def swp (a : Int → Int) (i j : Int) : Int → Int := fun k => if k = i then a j else if k = j then a i else a k
theorem swp_perm {a : Int → Int} {i j lo hi : Int} (i0 : lo ≤ i) (i1 : i < hi) (j0 : lo ≤ j) (j1 : j < hi) : PermOn lo hi a (swp a i j) := by
  have e : ∀ k, (fun k => if k = i then j else if k = j then i else k : Int → Int) ((fun k => if k = i then j else if k = j then i else k : Int → Int) k) = k := fun k => by
    dsimp only; split <;> (try split) <;> (try split) <;> (try split) <;> omega
  refine ⟨fun k => if k = i then j else if k = j then i else k, fun k => if k = i then j else if k = j then i else k, fun k => ⟨e k, e k⟩, fun k hk => ?_, fun k => ?_⟩
  · dsimp only; rw [if_neg (by omega), if_neg (by omega)]
  · unfold swp; dsimp only; split
    · rfl
    · split <;> rfl
def Srt (R : Int → Int → Prop) (lo hi : Int) (a : Int → Int) : Prop := ∀ i j, lo ≤ i → i < j → j < hi → R (a i) (a j)
theorem Srt.mono {R : Int → Int → Prop} {lo hi lo' hi' : Int} {a : Int → Int} (h : Srt R lo hi a) (h0 : lo ≤ lo') (h1 : hi' ≤ hi) : Srt R lo' hi' a := fun i j i0 ij j1 => h i j (by omega) ij (by omega)
theorem Srt.congr {R : Int → Int → Prop} {lo hi : Int} {a b : Int → Int} (h : Srt R lo hi a) (e : ∀ k, lo ≤ k → k < hi → b k = a k) : Srt R lo hi b := fun i j i0 ij j1 => by
  rw [e i i0 (by omega), e j (by omega) j1]; exact h i j i0 ij j1
def Tie (lt : Int → Int → Prop) : Int → Int → Prop := fun x y => lt x y ∨ (¬ lt y x ∧ x < y)
structure Swo (lt : Int → Int → Prop) : Prop where
  asym : ∀ x y, lt x y → ¬ lt y x
  trans : ∀ x y z, lt x y → lt y z → lt x z
  inc : ∀ x y z, ¬ lt x y → ¬ lt y z → ¬ lt x z
theorem Tie.trans {lt : Int → Int → Prop} (h : Swo lt) {x y z : Int} (a : Tie lt x y) (b : Tie lt y z) : Tie lt x z := by
  rcases a with a | ⟨a1, a2⟩ <;> rcases b with b | ⟨b1, b2⟩
  · exact .inl (h.trans _ _ _ a b)
  · left; exact Classical.byContradiction fun hn => h.inc _ _ _ hn b1 a
  · left; exact Classical.byContradiction fun hn => h.inc _ _ _ a1 hn b
  · exact .inr ⟨h.inc _ _ _ b1 a1, by omega⟩
theorem Tie.asym {lt : Int → Int → Prop} (h : Swo lt) {x y : Int} (a : Tie lt x y) : ¬ Tie lt y x := by
  rintro (b | ⟨b1, b2⟩)
  · rcases a with a | ⟨a1, a2⟩
    · exact h.asym _ _ a b
    · exact a1 b
  · rcases a with a | ⟨a1, a2⟩
    · exact b1 a
    · omega
theorem Tie.of {lt : Int → Int → Prop} (h : Swo lt) {x y : Int} (hxy : x < y) (hn : ¬ lt y x) : Tie lt x y := by
  by_cases hl : lt x y
  · exact .inl hl
  · exact .inr ⟨hn, hxy⟩
def Parted (lo c hi : Int) (a : Int → Int) : Prop := ∀ i j, lo ≤ i → i < c → c ≤ j → j < hi → a i < a j
theorem Parted.perm {lo c hi : Int} {a b : Int → Int} (h : Parted lo c hi a) (hp : ∃ m, PermOn lo c a m ∧ PermOn c hi m b) : Parted lo c hi b := fun i j i0 i1 j0 j1 => by
  obtain ⟨m, h1, h2⟩ := hp
  obtain ⟨i', g0, g1, g2⟩ := h1.fr i0 i1
  obtain ⟨j', f0, f1, f2⟩ := h2.fr j0 j1
  rw [h2.out (by omega), g2, f2, h1.out (by omega)]
  exact h i' j' g0 g1 f0 f1
structure Ins (lt : Int → Int → Prop) (lo i j : Int) (a b : Int → Int) : Prop where
  perm : PermOn lo (i + 1) a b
  rest : ∀ p q, lo ≤ p → p < q → q ≤ i → p ≠ j → q ≠ j → Tie lt (b p) (b q)
  less : ∀ q, j < q → q ≤ i → Tie lt (b j) (b q)
  big : ∀ p, lo ≤ p → p < j → b p < b j
theorem Ins.start {lt : Int → Int → Prop} {lo i : Int} {a : Int → Int} (i0 : lo ≤ i) (hs : Srt (Tie lt) lo i a) (hb : ∀ p, lo ≤ p → p < i → a p < a i) : Ins lt lo i i a a :=
  ⟨.refl _ _ _, fun p q p0 pq q1 pi qi => hs p q p0 pq (by omega), fun q q0 q1 => by omega, hb⟩
theorem Ins.step {lt : Int → Int → Prop} {lo i j : Int} {a b : Int → Int} (j0 : lo < j) (j1 : j ≤ i) (h : Ins lt lo i j a b) (hl : lt (b j) (b (j - 1))) : Ins lt lo i (j - 1) a (swp b j (j - 1)) := by
  have e0 : swp b j (j - 1) j = b (j - 1) := by unfold swp; rw [if_pos rfl]
  have e1 : swp b j (j - 1) (j - 1) = b j := by unfold swp; rw [if_neg (by omega), if_pos rfl]
  have e2 : ∀ k, k ≠ j → k ≠ j - 1 → swp b j (j - 1) k = b k := fun k h1 h2 => by unfold swp; rw [if_neg h1, if_neg h2]
  refine ⟨h.perm.trans (swp_perm (by omega) (by omega) (by omega) (by omega)), fun p q p0 pq q1 pj qj => ?_, fun q q0 q1 => ?_, fun p p0 p1 => ?_⟩
  · by_cases hp : p = j
    · rw [hp, e0, e2 q (by omega) qj]; exact h.rest (j - 1) q (by omega) (by omega) q1 (by omega) (by omega)
    · rw [e2 p hp pj]
      by_cases hq : q = j
      · rw [hq, e0]; exact h.rest p (j - 1) p0 (by omega) (by omega) hp (by omega)
      · rw [e2 q hq qj]; exact h.rest p q p0 pq q1 hp hq
  · rw [e1]
    by_cases hq : q = j
    · rw [hq, e0]; exact .inl hl
    · rw [e2 q hq (by omega)]; exact h.less q (by omega) q1
  · rw [e1, e2 p (by omega) (by omega)]; exact h.big p p0 (by omega)
theorem Ins.fin {lt : Int → Int → Prop} (hw : Swo lt) {lo i j : Int} {a b : Int → Int} (j0 : lo ≤ j) (j1 : j ≤ i) (h : Ins lt lo i j a b) (hl : j = lo ∨ ¬ lt (b j) (b (j - 1))) : Srt (Tie lt) lo (i + 1) b := fun p q p0 pq q1 => by
  have hle : ∀ p, lo ≤ p → p < j → Tie lt (b p) (b j) := fun p p0 p1 => by
    rcases hl with hl | hl
    · omega
    · have h1 : Tie lt (b (j - 1)) (b j) := Tie.of hw (h.big (j - 1) (by omega) (by omega)) hl
      by_cases hp : p = j - 1
      · rw [hp]; exact h1
      · exact (h.rest p (j - 1) p0 (by omega) (by omega) (by omega) (by omega)).trans hw h1
  by_cases hp : p = j
  · rw [hp]; exact h.less q (by omega) (by omega)
  · by_cases hq : q = j
    · rw [hq]; exact hle p p0 (by omega)
    · exact h.rest p q p0 pq (by omega) hp hq
structure Halves (lt : Int → Int → Prop) (a s mid e b : Int) (t : Int → Int) : Prop where
  l1 : Srt (Tie lt) a s t
  l2 : Srt (Tie lt) s mid t
  r1 : Srt (Tie lt) mid e t
  r2 : Srt (Tie lt) e b t
  pl : Parted a s mid t
  pr : Parted mid e b t
  cross : ∀ i j, a ≤ i → i < mid → mid ≤ j → j < b → Tie lt (t i) (t j)
theorem Halves.left {lt : Int → Int → Prop} {a s mid e b : Int} {t : Int → Int} (h : Halves lt a s mid e b t) (hn : ¬ (a < s ∧ s < mid)) (s0 : a ≤ s) (s1 : s ≤ mid) : Srt (Tie lt) a mid t := by
  by_cases h1 : a < s
  · obtain rfl : s = mid := by omega
    exact h.l1
  · obtain rfl : a = s := by omega
    exact h.l2
theorem Halves.right {lt : Int → Int → Prop} {a s mid e b : Int} {t : Int → Int} (h : Halves lt a s mid e b t) (hn : ¬ (mid < e ∧ e < b)) (s0 : mid ≤ e) (s1 : e ≤ b) : Srt (Tie lt) mid b t := by
  by_cases h1 : mid < e
  · obtain rfl : e = b := by omega
    exact h.r1
  · obtain rfl : mid = e := by omega
    exact h.r2
theorem Halves.keep {lt : Int → Int → Prop} {a s mid e b : Int} {t u : Int → Int} (h : Halves lt a s mid e b t) (hp : PermOn a mid t u) : Srt (Tie lt) mid e u ∧ Srt (Tie lt) e b u ∧ Parted mid e b u ∨ e < mid := by
  by_cases he : mid ≤ e
  · refine .inl ⟨h.r1.congr fun k k0 k1 => hp.out (by omega), h.r2.congr fun k k0 k1 => hp.out (by omega), fun i j i0 i1 j0 j1 => ?_⟩
    rw [hp.out (by omega), hp.out (by omega)]; exact h.pr i j i0 i1 j0 j1
  · exact .inr (by omega)
theorem Parted.keep {lo c hi x y : Int} {a b : Int → Int} (h : Parted lo c hi a) (hp : PermOn x y a b) (x0 : lo ≤ x) (y0 : y ≤ hi) (hc : y ≤ c ∨ c ≤ x) : Parted lo c hi b := fun i j i0 i1 j0 j1 => by
  have gi : ∃ i', lo ≤ i' ∧ i' < c ∧ b i = a i' := by
    by_cases hx : x ≤ i ∧ i < y
    · obtain ⟨i', g0, g1, g2⟩ := hp.fr hx.1 hx.2
      exact ⟨i', by omega, by omega, g2⟩
    · exact ⟨i, i0, i1, hp.out hx⟩
  have gj : ∃ j', c ≤ j' ∧ j' < hi ∧ b j = a j' := by
    by_cases hx : x ≤ j ∧ j < y
    · obtain ⟨j', g0, g1, g2⟩ := hp.fr hx.1 hx.2
      exact ⟨j', by omega, by omega, g2⟩
    · exact ⟨j, j0, j1, hp.out hx⟩
  obtain ⟨i', a1, a2, a3⟩ := gi
  obtain ⟨j', b1, b2, b3⟩ := gj
  rw [a3, b3]; exact h i' j' a1 a2 b1 b2
def Runs_ (lt : Int → Int → Prop) (s n x y : Int) (t : Int → Int) : Prop := ∀ c, x ≤ c → c < y → s ∣ c → Srt (Tie lt) c (min (c + s) n) t ∧ Parted 0 c n t
theorem Runs_.keep {lt : Int → Int → Prop} {s n x y p q : Int} {t u : Int → Int} (h : Runs_ lt s n x y t) (hp : PermOn p q t u) (p0 : 0 ≤ p) (q0 : q ≤ n) (hc : ∀ c, x ≤ c → c < y → s ∣ c → min (c + s) n ≤ p ∧ c ≤ p ∨ q ≤ c) : Runs_ lt s n x y u := fun c c0 c1 cd => by
  have h1 := h c c0 c1 cd
  have h2 := hc c c0 c1 cd
  exact ⟨h1.1.congr fun k k0 k1 => hp.out (by omega), h1.2.keep hp p0 q0 (by omega)⟩
theorem Halves.after {lt : Int → Int → Prop} {a s mid e b : Int} {t u : Int → Int} (h : Halves lt a s mid e b t) (hp : PermOn a mid t u) (hs : Srt (Tie lt) a mid u) (e0 : mid ≤ e) (e1 : e ≤ b) : Halves lt a a mid e b u := by
  refine ⟨fun i j i0 ij j1 => by omega, hs, h.r1.congr fun k k0 k1 => hp.out (by omega), h.r2.congr fun k k0 k1 => hp.out (by omega), fun i j i0 i1 j0 j1 => by omega, fun i j i0 i1 j0 j1 => ?_, fun i j i0 i1 j0 j1 => ?_⟩
  · rw [hp.out (by omega), hp.out (by omega)]; exact h.pr i j i0 i1 j0 j1
  · obtain ⟨i', g0, g1, g2⟩ := hp.fr i0 i1
    rw [g2, hp.out (k := j) (by omega)]; exact h.cross i' j g0 g1 j0 j1
end Go.Proofs.Gw
namespace Go.Proofs.Gw
def lst (n : Int) (f : Int → Int) : List Int := (List.range n.toNat).map fun (k : Nat) => f (k : Int)
def olt : Option Int → Option Int → Prop
  | none, some _ => True
  | some x, some y => x < y
  | _, _ => False
theorem olt_irr : ∀ a, ¬ olt a a
  | none => id
  | some x => by simp [olt]
theorem olt_trans : ∀ {a b c}, olt a b → olt b c → olt a c
  | none, some _, some _, _, _ => trivial
  | some x, some y, some z, h, k => by simp only [olt] at *; omega
def ahd (a b : List Int) : Prop := ∃ j : Nat, (∀ k < j, a[k]? = b[k]?) ∧ olt b[j]? a[j]?
theorem ahd_asym {a b : List Int} (h : ahd a b) : ¬ ahd b a := by
  rintro ⟨j, h1, h2⟩
  obtain ⟨i, g1, g2⟩ := h
  rcases Nat.lt_trichotomy i j with h | h | h
  · rw [h1 i h] at g2; exact olt_irr _ g2
  · subst h; exact olt_irr _ (olt_trans g2 h2)
  · rw [g1 j h] at h2; exact olt_irr _ h2
abbrev Us := List (List Int × Int)
def addU : Us → List Int × Int → Us
  | [], u => [u]
  | v :: r, u => if v.1 = u.1 then (v.1, v.2 + u.2) :: r else v :: addU r u
def sums (l : Us) : Us := l.foldl addU []
theorem addU_pos : ∀ {a : Us} {u : List Int × Int}, (∀ x ∈ a, 1 ≤ x.2) → 1 ≤ u.2 → ∀ x ∈ addU a u, 1 ≤ x.2
  | [], u, _, hu, x, h => by simp [addU] at h; rw [h]; exact hu
  | v :: r, u, ha, hu, x, h => by
    have hv := ha v (by simp)
    rw [addU] at h
    split at h
    · rcases List.mem_cons.1 h with h | h
      · rw [h]; dsimp only; omega
      · exact ha x (by simp [h])
    · rcases List.mem_cons.1 h with h | h
      · rw [h]; exact hv
      · exact addU_pos (fun y hy => ha y (by simp [hy])) hu x h
theorem foldl_pos : ∀ (l a : Us), (∀ x ∈ a, 1 ≤ x.2) → (∀ x ∈ l, 1 ≤ x.2) → ∀ x ∈ l.foldl addU a, 1 ≤ x.2
  | [], _, h, _ => h
  | u :: l, a, h, hl => foldl_pos l _ (addU_pos h (hl u (by simp))) fun x hx => hl x (by simp [hx])
theorem sums_pos {l : Us} (h : ∀ x ∈ l, 1 ≤ x.2) : ∀ x ∈ sums l, 1 ≤ x.2 := foldl_pos l [] (by simp) h
def NormR (l out : Us) : Prop := out.Perm (sums l) ∧ out.Pairwise (fun u v => ahd u.1 v.1)
theorem NormR.same {l a b : Us} (h : NormR l a) (k : NormR l b) : a = b :=
  (h.1.trans k.1.symm).eq_of_pairwise (le := fun u v => ahd u.1 v.1) (fun x y _ _ h1 h2 => absurd h2 (ahd_asym h1)) h.2 k.2
theorem NormR.pos {l a : Us} (h : NormR l a) (hp : ∀ x ∈ l, 1 ≤ x.2) : ∀ x ∈ a, 1 ≤ x.2 := fun x hx => sums_pos hp x (h.1.mem_iff.1 hx)
end Go.Proofs.Gw
namespace Go.Proofs.Gw
open Go Go.RowKit
theorem PermOn.inj {lo hi : Int} {t : Int → Int} (h : PermOn lo hi (fun k => k) t) {i j : Int} (e : t i = t j) : i = j := by
  obtain ⟨p, q, e1, e2, e3⟩ := h
  rw [e3, e3] at e
  have := congrArg q e
  rwa [(e1 _).2, (e1 _).2] at this
end Go.Proofs.Gw
namespace Go.Proofs.Gw
def psum (f d : Int → Int) : Nat → Int
  | 0 => 0
  | k + 1 => psum f d k + f k * d k
theorem psum_next (f d : Int → Int) {i : Int} (h : 0 ≤ i) : psum f d (i + 1).toNat = psum f d i.toNat + f i * d i := by
  rw [show (i + 1).toNat = i.toNat + 1 by omega, psum, Int.toNat_of_nonneg h]
def puse (sz : Int → Int) (p : List Int) : Int := ((List.range p.length).map fun (k : Nat) => p.getD k 0 * sz k).sum
structure FFOk (m room : Int) (sz : Int → Int) (hist : List Int) (s : Us) : Prop where
  ok : ∀ b ∈ s, b.1.length = m.toNat ∧ puse sz b.1 + b.2 = room ∧ 0 ≤ b.2
  pr : s.Pairwise fun a b => a.2 + b.2 < room
  mt : (s.map fun b => room - b.2).sum = (hist.map sz).sum
  ct : ∀ g : Int → Int, (s.map fun b => puse g b.1).sum = (hist.map g).sum
  ln : s.length ≤ hist.length
  nn : ∀ b ∈ s, ∀ v ∈ b.1, 0 ≤ v
theorem FFOk.nil (m room : Int) (sz : Int → Int) : FFOk m room sz [] [] := ⟨by simp, .nil, rfl, fun _ => rfl, by simp, by simp⟩
end Go.Proofs.Gw
namespace Go.Proofs.YtkichmnjjblodaaGreat
open Go Go.RowKit Go.Proofs.Gw
theorem cl_121 : calledT Tryz.prog 121 = true := by kernel_rfl
theorem cl_154 : calledT Tryz.prog 154 = true := by kernel_rfl
theorem cl_156 : calledT Tryz.prog 156 = true := by kernel_rfl
theorem cl_84 : calledT Tryz.prog 84 = true := by kernel_rfl
theorem cl_92 : calledT Tryz.prog 92 = true := by kernel_rfl
theorem el_107 : elemT Tryz.prog 107 = some (.agg #[.slice none 0 0, .int .i64 0], 2, 32) := by kernel_rfl
theorem fd_107_0 : fieldT Tryz.prog 107 0 = some 0 := by kernel_rfl
theorem fd_107_1 : fieldT Tryz.prog 107 1 = some 1 := by kernel_rfl
theorem sl_60 : sliceT Tryz.prog 60 = some (107, 2) := by kernel_rfl
theorem st_107 : structT Tryz.prog 107 = some 2 := by kernel_rfl
theorem Sat.oldblk {w0 w : World} {l : List Ent} {g : Nat} {cs : List Value} (hS : Sat w0 w l) (h : (Ent.blk g cs).holds w0) : (Ent.blk g cs).holds w := by
  obtain ⟨T, h⟩ := h
  exact ⟨T, by rw [hS.below.block g (by rw [Array.getElem?_eq_some_iff] at h; exact h.1)]; exact h⟩
theorem xlfs {L : List (Nat × Value)} {w0 w : World} {l : List Ent} {o : Oper} {x : Operand} {T : TypeId} {k g : Nat} {cs : List Value} (ht : structT Tryz.prog T = some k) (h : (Ent.blk g cs).holds w0) (hS : Sat w0 w l) (ho : o.op = .load T x := by exact rfl)
    (hx : evL L x = some (.pointer (some ⟨g, 0, none⟩)) := by exact rfl) (hk : cs.length = k := by exact rfl) : Runs Tryz.prog L w o (.value (.agg cs.toArray)) w := ex_loads ho (by rw [ht, hk]) hx (Sat.oldblk hS h).cells
theorem c_badu {vL vD : Value} {p : Prob} {gp : Nat} {vB : Value} {m b : Int} {g : Int → Int} (w0 : World) (hG : (Ent.blk gp [vL, vD, .int .i64 p.stock, .int .i64 p.kerf]).holds w0) (h : PAt w0 vL vD p) (hB : Row w0 vB 1 m (ints g)) :
    Calls Tryz.prog 154 [.agg #[vB, .int .i64 b], .pointer (some ⟨gp, 0, none⟩)].toArray w0 fun e w => ∃ v, e = .returned v ∧ v = B (¬ (1 ≤ b ∧ b ≤ 1000 ∧ FitsP p m g)) ∧ Sat w0 w [] := by
  refine zenG Tryz.func154 Tryz.ntmps154 fun w hS => ?_
  refine zsr ?_
  refine zla (xbx (cs := [_, _]) hS) ?_; rintro _ w ⟨g1, rfl, hS⟩
  replace hS := hS.n1
  refine zlv xas ?_
  refine zlz ?_
  refine zlv (xfb 1 fd_107_1) ?_
  refine zlv (xlb 0 pl_3 hS) ?_
  refine zs2 ?_
  refine zlb 7 ?_ ?_ <;> intro hc
  ·
   iterate 3 refine zlo ?_
   refine zs2 ?_
   iterate 5 refine zlo ?_
   refine zs2 ?_
   refine zlt <| zrt <| zf1 ⟨_, rfl, ?_⟩
   exact ⟨true_B (by rintro ⟨h1, h2, h3⟩; first | omega | exact absurd h3 ‹_›), hS.nl⟩
  refine zlv (xfb 1 fd_107_1) ?_
  refine zlv (xlb 0 pl_3 hS) ?_
  refine zs3 ?_
  refine zlb 12 ?_ ?_ <;> intro hc
  ·
   iterate 5 refine zlo ?_
   refine zs2 ?_
   refine zlt <| zrt <| zf1 ⟨_, rfl, ?_⟩
   exact ⟨true_B (by rintro ⟨h1, h2, h3⟩; first | omega | exact absurd h3 ‹_›), hS.nl⟩
  refine zlv (xlfs st_32 hG hS) ?_
  refine zlv (xfb 0 fd_107_0) ?_
  refine zlv (xlb 0 pl_22 hS) ?_
  refine zlc (xc0 cl_155) (c_pfits (p := p) w (h.below hS.below) (hB.below hS.below)) ?_; rintro _ w ⟨rfl, hS'⟩
  replace hS := hS.cmp hS'; clear hS'
  refine zs3 ?_
  refine zlt <| zrt <| zf1 ⟨_, rfl, ?_⟩
  exact ⟨B_congr ⟨fun h1 hh => h1 hh.2.2, fun h1 hh => h1 ⟨by omega, by omega, hh⟩⟩, hS.nl⟩
theorem c_ixbad {vV : Value} {u : Int} {pv : Int → Value} {ln : Int → Int} {pt : Int → Int → Int} {cnt : Int → Int} {vL vD : Value} {p : Prob} {gp : Nat} (w0 : World) (hV : VAt w0 vV u pv ln pt cnt) (hG : (Ent.blk gp [vL, vD, .int .i64 p.stock, .int .i64 p.kerf]).holds w0) (h : PAt w0 vL vD p) :
    Calls Tryz.prog 92 [vV, .func (.func 154) #[] #[.pointer (some ⟨gp, 0, none⟩)]].toArray w0 fun e w => ∃ v, e = .returned v ∧ ∃ r : Int, v = .int .i64 r ∧ ((r = -1 ∧ ∀ k, 0 ≤ k → k < u → ¬ (¬ (1 ≤ (cnt k) ∧ (cnt k) ≤ 1000 ∧ FitsP p (ln k) (pt k)))) ∨ (0 ≤ r ∧ r < u ∧ (¬ (1 ≤ (cnt r) ∧ (cnt r) ≤ 1000 ∧ FitsP p (ln r) (pt r))) ∧ ∀ k, 0 ≤ k → k < r → ¬ (¬ (1 ≤ (cnt k) ∧ (cnt k) ≤ 1000 ∧ FitsP p (ln k) (pt k))))) ∧ Sat w0 w [] := by
  have hn := hV.row.slh.n0; have hn1 := hV.row.slh.n1
  refine zenG Tryz.func92 Tryz.ntmps92 fun w hS => ?_
  refine zsr ?_
  refine zlv xas ?_
  refine zlt <| zsq <| zsr ?_
  refine zlv xmv ?_
  refine zlv (xln sl_60 hV.row.slh) ?_
  refine zlv xmv ?_
  refine zlt <| zbk <| zlp (fun mm M w => ∃ (i : Int), mm = ((u - i).toNat) ∧ (0 ≤ i) ∧ (i ≤ u) ∧ (∀ k, 0 ≤ k → k < i → ¬ (¬ (1 ≤ (cnt k) ∧ (cnt k) ≤ 1000 ∧ FitsP p (ln k) (pt k)))) ∧ M = [(0, vV), (1, .func (.func 154) #[] #[.pointer (some ⟨gp, 0, none⟩)]), (7, .int .i64 u), (8, .int .i64 i)] ∧ Sat w0 w []) ⟨0, rfl, (by omega), (by omega), ?_, rfl, hS⟩ ?_
  ·
   intro k h0 h1; omega
  clear hS w
  rintro mm M w ⟨i, rfl, h0, h1, hall, rfl, hS⟩
  refine zsr ?_
  refine zlv xlss ?_
  refine zlt <| zsq ?_
  refine zcif ?_ ?_ <;> intro hc
  ·
   refine zsk <| ztn <| zsq <| zbk <| zsr ?_
   refine zs2 ?_
   refine zlz ?_
   refine zs3 ?_
   refine zlv (xix (kk := 2 * i) sl_60 hV.row.slh) ?_
   refine zlv (xlw (cs := [(pv i), .int .i64 (cnt i)]) st_107 (hV.row.below hS.below) (ucells_at (k := 2 * i) (i := i) pv cnt (by omega))) ?_
   refine zlc (xcc (vs := [_]) cl_154) (c_badu (p := p) (m := (ln i)) (g := (pt i)) w (Sat.oldblk hS hG) (h.below hS.below) ((hV.p i (by omega) (by omega)).below hS.below)) ?_; rintro _ w ⟨rfl, hS'⟩
   replace hS := hS.cmp hS'; clear hS'
   refine zlt ?_
   refine zcif ?_ ?_ <;> intro hc
   ·
    refine zsr ?_
    refine zs2 ?_
    refine zlt <| zrt <| zbr <| ztr <| ztr <| zbr <| ztr <| zf1 ⟨_, rfl, ?_⟩
    exact ⟨i, rfl, .inr ⟨by omega, by omega, ‹¬ (1 ≤ (cnt i) ∧ (cnt i) ≤ 1000 ∧ FitsP p (ln i) (pt i))›, hall⟩, hS⟩
   refine zsk <| zbn <| ztn <| zrg ?_
   refine zlv (xadd (r := i + 1)) ?_
   refine zlv xmv ?_
   refine zln <| zlq ⟨i + 1, rfl, (by omega), (by omega), ?_, rfl, hS⟩
   ·
    intro k h0' h1'; rcases Int.lt_or_eq_of_le (show k ≤ i by omega) with hk | hk; exact hall k h0' hk; rw [hk]; assumption
  refine zxt <| ztx <| ztx <| zbh <| ztn <| zsr ?_
  refine zlv xas ?_
  refine zlt <| zrt <| zf1 ⟨_, rfl, ?_⟩
  exact ⟨-1, rfl, .inl ⟨rfl, fun k h0 h1 => hall k h0 (by omega)⟩, hS⟩
theorem c_cobad {vV : Value} {u : Int} {pv : Int → Value} {ln : Int → Int} {pt : Int → Int → Int} {cnt : Int → Int} {vL vD : Value} {p : Prob} {gp : Nat} (w0 : World) (hV : VAt w0 vV u pv ln pt cnt) (hG : (Ent.blk gp [vL, vD, .int .i64 p.stock, .int .i64 p.kerf]).holds w0) (h : PAt w0 vL vD p) :
    Calls Tryz.prog 156 [vV, .func (.func 154) #[] #[.pointer (some ⟨gp, 0, none⟩)]].toArray w0 fun e w => ∃ v, e = .returned v ∧ v = B (∃ k, 0 ≤ k ∧ k < u ∧ ¬ (1 ≤ (cnt k) ∧ (cnt k) ≤ 1000 ∧ FitsP p (ln k) (pt k))) ∧ Sat w0 w [] := by
  refine zenG Tryz.func156 Tryz.ntmps156 fun w hS => ?_
  refine zsr ?_
  refine zlv xas ?_
  refine zlz ?_
  refine zs2 ?_
  refine zlc (xc0 cl_92) (c_ixbad (u := u) (pv := pv) (ln := ln) (pt := pt) (cnt := cnt) (p := p) w (hV.below hS.below) (Sat.oldblk hS hG) (h.below hS.below)) ?_; rintro _ w ⟨r1, rfl, hr1, hS'⟩
  replace hS := hS.cmp hS'; clear hS'
  refine zs2 ?_
  refine zlt <| zrt <| zf1 ⟨_, rfl, ?_⟩
  exact ⟨B_congr (by
   rcases hr1 with ⟨h1, h2⟩ | ⟨h1, h2, h3, _⟩
   · exact ⟨fun h => by omega, fun ⟨k, h4, h5, h6⟩ => absurd h6 (h2 k h4 h5)⟩
   · exact ⟨fun _ => ⟨_, h1, h2, h3⟩, fun _ => h1⟩), hS⟩
def PlanOk (p : Prob) (u : Int) (ln : Int → Int) (pt : Int → Int → Int) (cnt : Int → Int) : Prop := p.Ok ∧ u ≤ 1000 ∧ ∀ k, 0 ≤ k → k < u → 1 ≤ cnt k ∧ cnt k ≤ 1000 ∧ FitsP p (ln k) (pt k)
def madeF (u : Int) (pt : Int → Int → Int) (cnt : Int → Int) : Int → Int := fun j => psum (fun k => pt k j) cnt u.toNat
theorem no_bad {p : Prob} {u : Int} {ln cnt : Int → Int} {pt : Int → Int → Int} : ¬ (∃ k, 0 ≤ k ∧ k < u ∧ ¬ (1 ≤ cnt k ∧ cnt k ≤ 1000 ∧ FitsP p (ln k) (pt k))) ↔ ∀ k, 0 ≤ k → k < u → 1 ≤ cnt k ∧ cnt k ≤ 1000 ∧ FitsP p (ln k) (pt k) :=
  ⟨fun h k k0 k1 => Classical.not_not.1 fun hn => h ⟨k, k0, k1, hn⟩, fun h ⟨k, k0, k1, hn⟩ => hn (h k k0 k1)⟩
theorem madeF_next {pt : Int → Int → Int} {cnt : Int → Int} {i j : Int} (i0 : 0 ≤ i) : madeF (i + 1) pt cnt j = madeF i pt cnt j + pt i j * cnt i := psum_next _ _ i0
theorem mul_rng3 {a b A B : Int} (a0 : 0 ≤ a) (a1 : a ≤ A) (b0 : 0 ≤ b) (b1 : b ≤ B) : 0 ≤ a * b ∧ a * b ≤ A * B :=
  ⟨Int.mul_nonneg a0 b0, Int.mul_le_mul a1 b1 b0 (by omega)⟩
theorem madeF_rng {p : Prob} {u : Int} {ln cnt : Int → Int} {pt : Int → Int → Int} (h : ∀ k, 0 ≤ k → k < u → 1 ≤ cnt k ∧ cnt k ≤ 1000 ∧ FitsP p (ln k) (pt k)) : ∀ {i : Int}, 0 ≤ i → i ≤ u → ∀ {j : Int}, 0 ≤ j → j < p.m → 0 ≤ madeF i pt cnt j ∧ madeF i pt cnt j ≤ 2000000 * i := by
  intro i i0
  obtain ⟨n, rfl⟩ := Int.eq_ofNat_of_zero_le i0
  induction n with
  | zero => intro _ j _ _; exact ⟨Int.le_refl _, by show (0 : Int) ≤ _; omega⟩
  | succ n ih =>
    intro hi j j0 j1
    have h1 := ih (by omega) (by omega) j0 j1
    obtain ⟨h2, h3, h4⟩ := h n (by omega) (by omega)
    have h5 := h4.all j j0 (by have := h4.eq; omega)
    have h6 := mul_rng3 h5.1 h5.2 (show 0 ≤ cnt n by omega) h3
    have h7 := madeF_next (pt := pt) (cnt := cnt) (i := (n : Int)) (j := j) (by omega)
    rw [show ((n + 1 : Nat) : Int) = (n : Int) + 1 by omega, h7]; omega
theorem c_planok {vV : Value} {u : Int} {pv : Int → Value} {ln : Int → Int} {pt : Int → Int → Int} {cnt : Int → Int} {vL vD : Value} {p : Prob} (w0 : World) (hV : VAt w0 vV u pv ln pt cnt) (h : PAt w0 vL vD p) :
    Calls Tryz.prog 121 [.agg #[vL, vD, .int .i64 p.stock, .int .i64 p.kerf], vV].toArray w0 fun e w => ∃ v, e = .returned v ∧ v = B (PlanOk p u ln pt cnt) ∧ Sat w0 w [] := by
  have hm := h.L.slh.n0; have hm1 := h.L.slh.n1; have hd := h.D.slh.n0; have hd1 := h.D.slh.n1; have hs := h.is; have hk := h.ik
  have hu := hV.row.slh.n0; have hu1 := hV.row.slh.n1
  refine zenG Tryz.func121 Tryz.ntmps121 fun w hS => ?_
  refine zsr ?_
  refine zla (xbx (cs := [_, _, _, _]) hS) ?_; rintro _ w ⟨g1, rfl, hS⟩
  replace hS := hS.n1
  refine zlv xas ?_
  refine zlz ?_
  refine zlv xmf ?_
  refine zlv xas ?_
  refine zlz ?_
  refine zlv (xls 0 st_32 hS) ?_
  refine zlc (xc0 cl_56) (c_pvalid (p := p) w (h.below hS.below)) ?_; rintro _ w ⟨rfl, hS'⟩
  replace hS := hS.cmp hS'; clear hS'
  refine zlv xmv ?_
  refine zlb 9 ?_ ?_ <;> intro hc
  ·
   refine zlv xmv ?_
   refine zlv (xln sl_60 hV.row.slh) ?_
   refine zs3 ?_
   refine zlb 14 ?_ ?_ <;> intro hc
   ·
    refine zs2 ?_
    refine zlc (xc0 cl_156) (c_cobad (u := u) (pv := pv) (ln := ln) (pt := pt) (cnt := cnt) (p := p) w (hV.below hS.below) (hS.holds _ (List.mem_of_getElem? (i := 0) rfl)) (h.below hS.below)) ?_; rintro _ w ⟨rfl, hS'⟩
    replace hS := hS.cmp hS'; clear hS'
    refine zs3 ?_
    refine zlt <| zrt <| zf1 ⟨_, rfl, ?_⟩
    exact ⟨B_congr ⟨fun hh => ⟨by first | assumption | exact Classical.not_not.1 ‹_›, by omega, no_bad.1 hh⟩, fun hh => no_bad.2 hh.2.2⟩, hS.nl⟩
   iterate 4 refine zlo ?_
   refine zs2 ?_
   refine zlt <| zrt <| zf1 ⟨_, rfl, ?_⟩
   exact ⟨false_B (by rintro ⟨h1, h2, h3⟩; first | exact absurd h1 ‹_› | omega | exact absurd (no_bad.2 h3) ‹_›), hS.nl⟩
  iterate 3 refine zlo ?_
  refine zs2 ?_
  iterate 4 refine zlo ?_
  refine zs2 ?_
  refine zlt <| zrt <| zf1 ⟨_, rfl, ?_⟩
  exact ⟨false_B (by rintro ⟨h1, h2, h3⟩; first | exact absurd h1 ‹_› | omega | exact absurd (no_bad.2 h3) ‹_›), hS.nl⟩
theorem c_pmade {vV : Value} {u : Int} {pv : Int → Value} {ln : Int → Int} {pt : Int → Int → Int} {cnt : Int → Int} {vL vD : Value} {p : Prob} (w0 : World) (hV : VAt w0 vV u pv ln pt cnt) (h : PAt w0 vL vD p) :
    Calls Tryz.prog 84 [.agg #[vL, vD, .int .i64 p.stock, .int .i64 p.kerf], vV].toArray w0 fun e w => ∃ v, e = .returned v ∧ ∃ r n f e, v = .tuple #[r, .int .i64 e] ∧ ((¬ PlanOk p u ln pt cnt ∧ n = 0 ∧ e = 1) ∨ (PlanOk p u ln pt cnt ∧ n = p.m ∧ f = madeF u pt cnt ∧ e = 0)) ∧ Slh r n ∧ Sat w0 w [.own r 1 3 n (ints f)] := by
  have hm := h.L.slh.n0; have hm1 := h.L.slh.n1; have hd := h.D.slh.n0; have hd1 := h.D.slh.n1; have hs := h.is; have hk := h.ik
  have hu := hV.row.slh.n0; have hu1 := hV.row.slh.n1
  refine zenG Tryz.func84 Tryz.ntmps84 fun w hS => ?_
  refine zsr ?_
  refine zla (xbx (cs := [_, _, _, _]) hS) ?_; rintro _ w ⟨g1, rfl, hS⟩
  replace hS := hS.n1
  refine zs2 ?_
  refine zlt <| zsq <| zsr ?_
  refine zlv (xls 0 st_32 hS) ?_
  refine zlv xmv ?_
  refine zlc (xc0 cl_121) (c_planok (u := u) (pv := pv) (ln := ln) (pt := pt) (cnt := cnt) (p := p) w (hV.below hS.below) (h.below hS.below)) ?_; rintro _ w ⟨rfl, hS'⟩
  replace hS := hS.cmp hS'; clear hS'
  refine zlv xnot ?_
  refine zlt ?_
  refine zcif ?_ ?_ <;> intro hc
  ·
   refine zsr ?_
   refine zs2 ?_
   refine zlt <| zrt <| ztr <| zf2 ⟨_, rfl, ?_⟩
   exact ⟨_, 0, fun _ => 0, 1, rfl, .inl ⟨‹¬ PlanOk p u ln pt cnt›, rfl, rfl⟩, slh_nil, (hS.sub (.cons _ .slnil)).addnil 1 3 (ints fun _ => 0)⟩
  refine zsk <| ztn <| zsr ?_
  refine zlv (xfb 0 fd_32_0) ?_
  have hplo : PlanOk p u ln pt cnt := by first | assumption | exact Classical.not_not.1 ‹_›
  have hpm1 := hplo.1.m1; have hpm2 := hplo.1.m2; have hu3 := hplo.2.1
  refine zlv (xlb 0 pl_22 hS) ?_
  refine zlv (xln sl_22 h.L.slh) ?_
  refine zla (xmk sl_22 el_3 hS) ?_; rintro v1 w ⟨hS, hv1⟩
  replace hS := hS.n2
  refine zlv xas ?_
  refine zlt <| zsq <| zsr ?_
  refine zlv xmv ?_
  refine zlv (xln sl_60 hV.row.slh) ?_
  refine zlv xmv ?_
  refine zlt <| zbk <| zlp (fun mm M w => ∃ (f : Int → Int) (i : Int), mm = ((u - i).toNat) ∧ (0 ≤ i) ∧ (i ≤ u) ∧ (∀ k, 0 ≤ k → k < p.m → f k = madeF i pt cnt k) ∧ M = [(4, .slice none 0 0), (5, .int .i64 0), (6, v1), (19, vV), (20, .int .i64 u), (21, .int .i64 i)] ∧ Sat w0 w [.blk g1 [vL, vD, .int .i64 p.stock, .int .i64 p.kerf], .own v1 1 3 p.m (ints f)]) ⟨(fun _ => 0), 0, rfl, (by omega), (by omega), ?_, rfl, hS⟩ ?_
  ·
   intro k _ _; rfl
  clear hS w
  rintro mm M w ⟨f, i, rfl, h0, h1, hf, rfl, hS⟩
  refine zsr ?_
  refine zlv xlss ?_
  refine zlt <| zsq ?_
  refine zcif ?_ ?_ <;> intro hc
  ·
   refine zsk <| ztn <| zsq <| zbk <| zsr ?_
   refine zlv (xix (kk := 2 * i) sl_60 hV.row.slh) ?_
   refine zlv (xlw (cs := [(pv i), .int .i64 (cnt i)]) st_107 (hV.row.below hS.below) (ucells_at (k := 2 * i) (i := i) pv cnt (by omega))) ?_
   obtain ⟨hq1, hq2, hq3⟩ := hplo.2.2 i h0 (by omega)
   have hq4 := hq3.eq
   refine zla (xal (cs := [_, _]) el_107 hS) ?_; rintro _ w ⟨g2, rfl, hS⟩
   replace hS := hS.n3
   refine zle (xsw 2 st_107 hS (hd := (ones_cons (hV.p i (by omega) (by omega)).slh.one (ones_cons rfl ones_nil)))) ?_; clear hS; rintro w hS
   replace hS := hS.n3
   refine zlz ?_
   refine zlv (xfb 0 fd_107_0) ?_
   refine zlv (xlb 2 pl_22 hS) ?_
   refine zlv (xln sl_22 (hV.p i (by omega) (by omega)).slh) ?_
   refine zlv xmv ?_
   refine zlt <| zbk <| zlp (fun mm M w => ∃ (f2 : Int → Int) (j : Int), mm = ((ln i - j).toNat) ∧ (0 ≤ j) ∧ (j ≤ ln i) ∧ (∀ k, 0 ≤ k → k < p.m → f2 k = (if k < j then madeF (i + 1) pt cnt k else madeF i pt cnt k)) ∧ M = [(4, .slice none 0 0), (5, .int .i64 0), (6, v1), (8, .pointer (some ⟨g2, 0, none⟩)), (19, vV), (20, .int .i64 u), (21, .int .i64 i), (26, (pv i)), (27, .int .i64 (ln i)), (28, .int .i64 j)] ∧ Sat w0 w [.blk g1 [vL, vD, .int .i64 p.stock, .int .i64 p.kerf], .own v1 1 3 p.m (ints f2), .blk g2 [(pv i), .int .i64 (cnt i)]]) ⟨f, 0, rfl, (by omega), (by omega), ?_, rfl, hS⟩ ?_
   ·
    intro k k0 k1; rw [if_neg (by omega)]; exact hf k k0 k1
   clear hS w
   rintro mm M w ⟨f2, j, rfl, j0, j1, hf2, rfl, hS⟩
   refine zsr ?_
   refine zlv xlss ?_
   refine zlt <| zsq ?_
   refine zcif ?_ ?_ <;> intro hc
   ·
    refine zsk <| ztn <| zsq <| zbk <| zsr ?_
    refine zlv xmv ?_
    refine zlv (xix (kk := j) sl_22 (hV.p i (by omega) (by omega)).slh) ?_
    refine zlv (xlr (u := .int .i64 ((pt i) j)) pl_3 ((hV.p i (by omega) (by omega)).below hS.below)) ?_
    have hpj := hq3.all j j0 (by omega)
    have hmr := madeF_rng hplo.2.2 h0 (by omega) (j := j) j0 (by omega)
    have hfj := hf2 j j0 (by omega)
    rw [if_neg (by omega)] at hfj
    have hmj := mul_rng3 hpj.1 hpj.2 (show 0 ≤ cnt i by omega) hq2
    refine zs2 ?_
    refine zlt ?_
    refine zdst [0, 1, 2] [0, 2] 10 mx_ hS ?_; clear hS; intro w hS
    refine zdv 0 (fun _ => xmv) ?_
    refine zdv 1 (fun _ => xmv) ?_
    refine zdv 2 (fun _ => (xix (kk := j) sl_22 hv1)) ?_
    refine zdl 3 (fun w hS => (xlr (u := .int .i64 (f2 j)) pl_3 (hS.rowN 1 rfl))) ?_
    refine zdv 4 (fun _ => xmv) ?_
    refine zdv 5 (fun _ => (xfb 1 fd_107_1)) ?_
    refine zdla 6 (fun w hS => (xlb 1 pl_3 hS)) ?_
    refine zdv 7 (fun _ => (xmul (r := (((pt i) j) * (cnt i))) (e := rfl))) ?_
    refine zdv 8 (fun _ => (xadd (r := f2 j + (((pt i) j) * (cnt i))))) ?_
    refine zdv 9 (fun _ => (xix (kk := j) sl_22 hv1)) ?_
    refine zde 10 (xso 1 pl_3 hS (upd_ints _ _ _)) ?_; clear hS; rintro w hS
    replace hS := hS.n3
    refine ⟨⟨fun h => absurd h (by decide), hS.pk [0, 2]⟩, ?_⟩
    refine zdd <| zbn <| ztn <| zrg ?_
    refine zlv (xadd (r := j + 1)) ?_
    refine zlv xmv ?_
    refine zln <| zlq ⟨(upd f2 j (f2 j + (((pt i) j) * (cnt i)))), j + 1, rfl, (by omega), (by omega), ?_, rfl, hS⟩
    ·
     intro k k0 k1; unfold upd; by_cases e : k = j
     · rw [if_pos e, if_pos (by omega), e, madeF_next h0]; omega
     · rw [if_neg e, hf2 k k0 k1]; by_cases e2 : k < j
       · rw [if_pos e2, if_pos (by omega)]
       · rw [if_neg e2, if_neg (by omega)]
   refine zxt <| ztx <| ztx <| zbh <| zbn <| ztn <| zrg ?_
   refine zlv (xadd (r := i + 1)) ?_
   refine zlv xmv ?_
   refine zln <| zlq ⟨f2, i + 1, rfl, (by omega), (by omega), ?_, rfl, hS.pk [0, 1]⟩
   ·
    intro k k0 k1; rw [hf2 k k0 k1, if_pos (by omega)]
  refine zxt <| ztx <| ztx <| zbh <| ztn <| zsr ?_
  refine zs3 ?_
  refine zlt <| zrt <| zf2 ⟨_, rfl, ?_⟩
  have hiu : i = u := by omega
  rw [hiu] at hf
  replace hS := hS.recont 1 rfl (d := ints (madeF u pt cnt)) (fun k k0 k1 => congrArg (Value.int .i64) (hf k k0 (by omega)))
  exact ⟨_, _, _, 0, rfl, .inr ⟨hplo, rfl, rfl, rfl⟩, hv1, hS.pk [1]⟩
theorem c_pmeets {vV : Value} {u : Int} {pv : Int → Value} {ln : Int → Int} {pt : Int → Int → Int} {cnt : Int → Int} {vL vD : Value} {p : Prob} (w0 : World) (hV : VAt w0 vV u pv ln pt cnt) (h : PAt w0 vL vD p) :
    Calls Tryz.prog 53 [.agg #[vL, vD, .int .i64 p.stock, .int .i64 p.kerf], vV].toArray w0 fun e w => ∃ v, e = .returned v ∧ v = B (PlanOk p u ln pt cnt ∧ ∀ j, 0 ≤ j → j < p.m → p.D j ≤ madeF u pt cnt j) ∧ Sat w0 w [] := by
  have hm := h.L.slh.n0; have hm1 := h.L.slh.n1; have hd := h.D.slh.n0; have hd1 := h.D.slh.n1; have hs := h.is; have hk := h.ik
  refine zenG Tryz.func53 Tryz.ntmps53 fun w hS => ?_
  refine zsr ?_
  refine zla (xbx (cs := [_, _, _, _]) hS) ?_; rintro _ w ⟨g1, rfl, hS⟩
  replace hS := hS.n1
  refine zlv xas ?_
  refine zlz ?_
  refine zlv (xls 0 st_32 hS) ?_
  refine zlv xmv ?_
  refine zlc (xc0 cl_84) (c_pmade (u := u) (pv := pv) (ln := ln) (pt := pt) (cnt := cnt) (p := p) w (hV.below hS.below) (h.below hS.below)) ?_; rintro _ w ⟨vdmd1, ndmd1, fdmd1, edmd1, rfl, hmdmd1, hvdmd1, hS'⟩
  replace hS : Sat w0 w [.blk g1 [vL, vD, .int .i64 p.stock, .int .i64 p.kerf], .own vdmd1 1 3 ndmd1 (ints fdmd1)] := hS.comp hS'; clear hS'
  refine zs3 ?_
  have hnd := hvdmd1.n0; have hnd1 := hvdmd1.n1
  have hndd : ndmd1 ≤ p.d := by
    rcases hmdmd1 with ⟨_, g2, _⟩ | ⟨g1, g2, _, _⟩
    · omega
    · have := g1.1.d; omega
  refine zs2 ?_
  refine zlt <| zsq <| zsr ?_
  refine zlv xmv ?_
  refine zlv (xln sl_22 hvdmd1) ?_
  refine zlv xmv ?_
  refine zlt <| zbk <| zlp (fun mm M w => ∃ (i : Int), mm = ((ndmd1 - i).toNat) ∧ (0 ≤ i) ∧ (i ≤ ndmd1) ∧ (∀ k, 0 ≤ k → k < i → p.D k ≤ fdmd1 k) ∧ M = [(2, .pointer (some ⟨g1, 0, none⟩)), (6, .int .i64 edmd1), (15, vdmd1), (16, .int .i64 ndmd1), (17, .int .i64 i)] ∧ Sat w0 w [.blk g1 [vL, vD, .int .i64 p.stock, .int .i64 p.kerf], .own vdmd1 1 3 ndmd1 (ints fdmd1)]) ⟨0, rfl, (by omega), (by omega), ?_, rfl, hS⟩ ?_
  ·
   intro k h0 h1; omega
  clear hS w
  rintro mm M w ⟨i, rfl, h0, h1, hall, rfl, hS⟩
  refine zsr ?_
  refine zlv xlss ?_
  refine zlt <| zsq ?_
  refine zcif ?_ ?_ <;> intro hc
  ·
   refine zsk <| ztn <| zsq <| zbk <| zsr ?_
   refine zlv xmv ?_
   refine zlv (xix (kk := i) sl_22 hvdmd1) ?_
   refine zlv (xlr (u := .int .i64 (fdmd1 i)) pl_3 (hS.rowN 1 rfl)) ?_
   refine zs2 ?_
   refine zlz ?_
   refine zlv xmv ?_
   refine zlv (xfb 1 fd_32_1) ?_
   refine zlv (xlb 0 pl_22 hS) ?_
   refine zlv xmv ?_
   refine zlv (xix (kk := i) sl_22 h.D.slh) ?_
   refine zlv (xlr (u := .int .i64 (p.D i)) pl_3 (h.D.below hS.below)) ?_
   have hbv := h.iD i
   refine zlv xlss ?_
   refine zlt ?_
   refine zcif ?_ ?_ <;> intro hc
   ·
    refine zsr ?_
    refine zlv xas ?_
    refine zlt <| zrt <| zbr <| ztr <| ztr <| zbr <| ztr <| zf1 ⟨_, rfl, ?_⟩
    refine ⟨false_B ?_, hS.nl⟩
    rcases hmdmd1 with ⟨g1, g2, g3⟩ | ⟨g1, g2, g3, g4⟩
    · exact fun hh => g1 hh.1
    · intro hh; subst g3; have h9 := hh.2 i h0 (by omega); omega
   refine zsk <| zbn <| ztn <| zrg ?_
   refine zlv (xadd (r := i + 1)) ?_
   refine zlv xmv ?_
   refine zln <| zlq ⟨i + 1, rfl, (by omega), (by omega), ?_, rfl, hS⟩
   ·
    intro k h0' h1'; rcases Int.lt_or_eq_of_le (show k ≤ i by omega) with hk | hk; exact hall k h0' hk; rw [hk]; omega
  refine zxt <| ztx <| ztx <| zbh <| ztn <| zsr ?_
  refine zs3 ?_
  refine zlt <| zrt <| zf1 ⟨_, rfl, ?_⟩
  refine ⟨B_congr ?_, hS.nl⟩
  rcases hmdmd1 with ⟨g1, g2, g3⟩ | ⟨g1, g2, g3, g4⟩
  · exact ⟨fun hh => by omega, fun hh => absurd hh.1 g1⟩
  · exact ⟨fun _ => ⟨g1, fun j j0 j1 => by have := hall j j0 (by omega); rw [g3] at this; exact this⟩, fun _ => by omega⟩
end Go.Proofs.YtkichmnjjblodaaGreat
namespace Go.Proofs.YtkichmnjjblodaaGreat
open Go Go.RowKit Go.Proofs.Gw
theorem el_103 : elemT Tryz.prog 103 = some (.agg #[.slice none 0 0, .int .i64 0], 2, 32) := by kernel_rfl
theorem st_103 : structT Tryz.prog 103 = some 2 := by kernel_rfl
theorem c_pbars {vV : Value} {u : Int} {pv : Int → Value} {ln : Int → Int} {pt : Int → Int → Int} {cnt : Int → Int} (w0 : World) (hV : VAt w0 vV u pv ln pt cnt) (hu6 : u ≤ 1000000) (hbc : ∀ k, 0 ≤ k → k < u → 0 ≤ cnt k ∧ cnt k ≤ 1000000000) :
    Calls Tryz.prog 54 [vV].toArray w0 fun e w => ∃ v, e = .returned v ∧ v = .int .i64 (psum (fun _ => 1) cnt u.toNat) ∧ Sat w0 w [] := by
  have hn := hV.row.slh.n0; have hn1 := hV.row.slh.n1
  refine zenG Tryz.func54 Tryz.ntmps54 fun w hS => ?_
  refine zsr ?_
  refine zlv xas ?_
  refine zlz ?_
  refine zlv xas ?_
  refine zlt <| zsq <| zsr ?_
  refine zlv xmv ?_
  refine zlv (xln sl_60 hV.row.slh) ?_
  refine zlv xmv ?_
  refine zlt <| zbk <| zlp (fun mm M w => ∃ (s : Int) (i : Int), mm = ((u - i).toNat) ∧ (0 ≤ i) ∧ (i ≤ u) ∧ (s = psum (fun _ => 1) cnt i.toNat) ∧ (0 ≤ s ∧ s ≤ 1000000000 * i) ∧ M = [(2, .int .i64 0), (3, .int .i64 s), (6, vV), (7, .int .i64 u), (8, .int .i64 i)] ∧ Sat w0 w []) ⟨0, 0, rfl, (by omega), (by omega), ?_, (by omega), rfl, hS⟩ ?_
  ·
   rfl
  clear hS w
  rintro mm M w ⟨s, i, rfl, h0, h1, hs9, hsb, rfl, hS⟩
  refine zsr ?_
  refine zlv xlss ?_
  refine zlt <| zsq ?_
  refine zcif ?_ ?_ <;> intro hc
  ·
   refine zsk <| ztn <| zsq <| zbk <| zsr ?_
   refine zlv (xix (kk := 2 * i) sl_60 hV.row.slh) ?_
   refine zlv (xlw (cs := [(pv i), .int .i64 (cnt i)]) st_107 (hV.row.below hS.below) (ucells_at (k := 2 * i) (i := i) pv cnt (by omega))) ?_
   have hci := hbc i h0 (by omega)
   refine zla (xal (cs := [_, _]) el_107 hS) ?_; rintro _ w ⟨g1, rfl, hS⟩
   replace hS := hS.n1
   refine zle (xsw 0 st_107 hS (hd := (ones_cons (hV.p i (by omega) (by omega)).slh.one (ones_cons rfl ones_nil)))) ?_; clear hS; rintro w hS
   replace hS := hS.n1
   refine zlt <| zrg ?_
   refine zlv xmv ?_
   refine zlv (xfb 1 fd_107_1) ?_
   refine zlv (xlb 0 pl_3 hS) ?_
   refine zlv (xadd (r := s + (cnt i))) ?_
   refine zlv xas ?_
   refine zln <| zbn <| ztn <| zrg ?_
   refine zlv (xadd (r := i + 1)) ?_
   refine zlv xmv ?_
   refine zln <| zlq ⟨s + (cnt i), i + 1, rfl, (by omega), (by omega), ?_, (by omega), rfl, hS.nl⟩
   ·
    rw [psum_next _ _ h0, ← hs9]; omega
  refine zxt <| ztx <| ztx <| zbh <| ztn <| zsr ?_
  refine zs2 ?_
  refine zlt <| zrt <| zf1 ⟨_, rfl, ?_⟩
  obtain rfl : i = u := by omega
  exact ⟨congrArg (Value.int .i64) hs9, hS⟩
theorem c_vsound {vV : Value} {u : Int} {pv : Int → Value} {ln : Int → Int} {pt : Int → Int → Int} {cnt : Int → Int} {vL vD : Value} {p : Prob} (w0 : World) (hV : VAt w0 vV u pv ln pt cnt) (h : PAt w0 vL vD p) :
    Calls Tryz.prog 89 [.agg #[vL, vD, .int .i64 p.stock, .int .i64 p.kerf], vV].toArray w0 fun e w => ∃ v, e = .returned v ∧ v = B (PlanOk p u ln pt cnt) ∧ Sat w0 w [] := by
  have hm := h.L.slh.n0; have hm1 := h.L.slh.n1; have hd := h.D.slh.n0; have hd1 := h.D.slh.n1; have hs := h.is; have hk := h.ik
  have hu := hV.row.slh.n0; have hu1 := hV.row.slh.n1
  refine zenG Tryz.func89 Tryz.ntmps89 fun w hS => ?_
  refine zsr ?_
  refine zla (xbx (cs := [_, _, _, _]) hS) ?_; rintro _ w ⟨g1, rfl, hS⟩
  replace hS := hS.n1
  refine zlv xas ?_
  refine zlt <| zsq <| zsr ?_
  refine zlv (xls 0 st_24 hS) ?_
  refine zlc (xc0 cl_28) (c_rvalid28 (p := p) w (h.below hS.below)) ?_; rintro _ w ⟨rfl, hS'⟩
  replace hS := hS.cmp hS'; clear hS'
  refine zs2 ?_
  refine zlb 9 ?_ ?_ <;> intro hc
  ·
   iterate 3 refine zlo ?_
   refine zlv xpt ?_
   refine zlt <| zct <| zsr ?_
   refine zlv xas ?_
   refine zlt <| zrt <| ztr <| zf1 ⟨_, rfl, ?_⟩
   refine ⟨false_B (fun hh => ?_), hS.nl⟩
   first
   | exact absurd hh.1 ‹¬ p.Ok›
   | (have := hh.2.1; omega)
   | (have h9 := hh.2.2 i h0 (by omega); first | exact absurd h9.2.2 ‹_› | omega)
  refine zlv xmv ?_
  refine zlv (xln sl_46 hV.row.slh) ?_
  refine zs2 ?_
  refine zlt ?_
  refine zcif ?_ ?_ <;> intro hc
  ·
   refine zsr ?_
   refine zlv xas ?_
   refine zlt <| zrt <| ztr <| zf1 ⟨_, rfl, ?_⟩
   refine ⟨false_B (fun hh => ?_), hS.nl⟩
   first
   | exact absurd hh.1 ‹¬ p.Ok›
   | (have := hh.2.1; omega)
   | (have h9 := hh.2.2 i h0 (by omega); first | exact absurd h9.2.2 ‹_› | omega)
  refine zsk <| ztn <| zsq <| zsr ?_
  refine zlv xas ?_
  refine zlt <| zbk ?_
  have hok9 : p.Ok := by first | assumption | exact Classical.not_not.1 ‹_›
  refine zlp (fun mm M w => ∃ (i : Int), mm = ((u - i).toNat) ∧ (0 ≤ i) ∧ (i ≤ u) ∧ (∀ k, 0 ≤ k → k < i → 1 ≤ cnt k ∧ cnt k ≤ 1000 ∧ FitsP p (ln k) (pt k)) ∧ M = [(1, vV), (2, .pointer (some ⟨g1, 0, none⟩)), (5, .int .i64 i)] ∧ Sat w0 w [.blk g1 [vL, vD, .int .i64 p.stock, .int .i64 p.kerf]]) ⟨0, rfl, (by omega), (by omega), ?_, rfl, hS⟩ ?_
  ·
   intro k h0 h1; omega
  clear hS w
  rintro mm M w ⟨i, rfl, h0, h1, hall, rfl, hS⟩
  refine zsq <| zsr ?_
  refine zs2 ?_
  refine zlv (xln sl_46 hV.row.slh) ?_
  refine zlv xlss ?_
  refine zlt ?_
  refine zcif ?_ ?_ <;> intro hc
  ·
   refine zsk <| ztn <| zsq <| zbk <| zsq ?_
   refine zdst [0] [0] 1000 mx_ hS ?_; clear hS; intro w hS
   refine zdla 0 (fun w hS => (xls 0 st_24 hS)) ?_
   refine zdv 1 (fun _ => xmv) ?_
   refine zdv 2 (fun _ => xmv) ?_
   refine zdv 3 (fun _ => (xix (kk := 2 * i) sl_46 hV.row.slh)) ?_
   refine zdv 4 (fun _ => (xfc (kk := 2 * i) fd_103_0 hV.row.slh)) ?_
   refine zdla 5 (fun w hS => (xlr (u := (pv i)) pl_22 (hV.row.below hS.below) (e := (ucells0 pv cnt (by omega))))) ?_
   refine zdc 6 (xc0 cl_90) (c_fits (p := p) w (h.below hS.below) ((hV.p i (by omega) (by omega)).below hS.below)) ?_; rintro _ w ⟨rfl, hS'⟩
   replace hS := hS.cmp hS'; clear hS'
   refine ⟨⟨fun _ => hS, hS⟩, ?_⟩
   refine zdv 7 (fun _ => xnot) ?_
   refine zdv 8 (fun _ => xmv) ?_
   refine zdb 28 ?_ ?_ <;> intro hc
   ·
    refine zdof 9 ?_
    refine zdof 10 ?_
    refine zdof 11 ?_
    refine zdof 12 ?_
    refine zdof 13 ?_
    refine zdof 14 ?_
    refine zdv 15 (fun _ => xpt) ?_
    refine zdv 16 (fun _ => xmv) ?_
    refine zdof 17 ?_
    refine zdof 18 ?_
    refine zdof 19 ?_
    refine zdof 20 ?_
    refine zdof 21 ?_
    refine zdof 22 ?_
    refine zdv 23 (fun _ => xpt) ?_
    refine zdd <| ztn <| zct <| zsr ?_
    refine zlv xas ?_
    refine zlt <| zrt <| zbr <| ztr <| ztr <| zbr <| ztr <| zf1 ⟨_, rfl, ?_⟩
    refine ⟨false_B (fun hh => ?_), hS.nl⟩
    first
    | exact absurd hh.1 ‹¬ p.Ok›
    | (have := hh.2.1; omega)
    | (have h9 := hh.2.2 i h0 (by omega); first | exact absurd h9.2.2 ‹_› | omega)
   refine zdv 9 (fun _ => xmv) ?_
   refine zdv 10 (fun _ => xmv) ?_
   refine zdv 11 (fun _ => (xix (kk := 2 * i) sl_46 hV.row.slh)) ?_
   refine zdv 12 (fun _ => (xfc (kk := 2 * i + 1) fd_103_1 hV.row.slh)) ?_
   refine zdla 13 (fun w hS => (xlr (u := .int .i64 (cnt i)) pl_3 (hV.row.below hS.below) (e := (ucells1 pv cnt (by omega))))) ?_
   refine zdv 14 (fun _ => xlss) ?_
   refine zdv 15 (fun _ => xpf) ?_
   refine zdv 16 (fun _ => xmv) ?_
   refine zdb 36 ?_ ?_ <;> intro hc
   ·
    refine zdof 17 ?_
    refine zdof 18 ?_
    refine zdof 19 ?_
    refine zdof 20 ?_
    refine zdof 21 ?_
    refine zdof 22 ?_
    refine zdv 23 (fun _ => xpt) ?_
    refine zdd <| ztn <| zct <| zsr ?_
    refine zlv xas ?_
    refine zlt <| zrt <| zbr <| ztr <| ztr <| zbr <| ztr <| zf1 ⟨_, rfl, ?_⟩
    refine ⟨false_B (fun hh => ?_), hS.nl⟩
    first
    | exact absurd hh.1 ‹¬ p.Ok›
    | (have := hh.2.1; omega)
    | (have h9 := hh.2.2 i h0 (by omega); first | exact absurd h9.2.2 ‹_› | omega)
   refine zdv 17 (fun _ => xmv) ?_
   refine zdv 18 (fun _ => xmv) ?_
   refine zdv 19 (fun _ => (xix (kk := 2 * i) sl_46 hV.row.slh)) ?_
   refine zdv 20 (fun _ => (xfc (kk := 2 * i + 1) fd_103_1 hV.row.slh)) ?_
   refine zdla 21 (fun w hS => (xlr (u := .int .i64 (cnt i)) pl_3 (hV.row.below hS.below) (e := (ucells1 pv cnt (by omega))))) ?_
   refine zdv 22 (fun _ => xgtr) ?_
   refine zdv 23 (fun _ => xpf) ?_
   refine zdd <| ztn ?_
   refine zcif ?_ ?_ <;> intro hc
   ·
    refine zsr ?_
    refine zlv xas ?_
    refine zlt <| zrt <| zbr <| ztr <| ztr <| zbr <| ztr <| zf1 ⟨_, rfl, ?_⟩
    refine ⟨false_B (fun hh => ?_), hS.nl⟩
    first
    | exact absurd hh.1 ‹¬ p.Ok›
    | (have := hh.2.1; omega)
    | (have h9 := hh.2.2 i h0 (by omega); first | exact absurd h9.2.2 ‹_› | omega)
   refine zsk <| zbn <| ztn <| zrg ?_
   refine zlv xmv ?_
   refine zlv (xadd (r := i + 1)) ?_
   refine zlv xas ?_
   refine zln <| zlq ⟨i + 1, rfl, (by omega), (by omega), ?_, rfl, hS⟩
   ·
    intro k h0' h1'; rcases Int.lt_or_eq_of_le (show k ≤ i by omega) with hk | hk; exact hall k h0' hk; rw [hk]; exact ⟨by omega, by omega, by first | assumption | exact Classical.not_not.1 ‹_›⟩
  refine zxt <| ztx <| ztx <| zbh <| ztn <| zsr ?_
  refine zlv xas ?_
  refine zlt <| zrt <| zf1 ⟨_, rfl, ?_⟩
  exact ⟨true_B ⟨hok9, by omega, fun k k0 k1 => hall k k0 (by omega)⟩, hS.nl⟩
theorem c_vmade {vV : Value} {u : Int} {pv : Int → Value} {ln : Int → Int} {pt : Int → Int → Int} {cnt : Int → Int} {vL vD : Value} {p : Prob} (w0 : World) (hV : VAt w0 vV u pv ln pt cnt) (h : PAt w0 vL vD p) :
    Calls Tryz.prog 58 [.agg #[vL, vD, .int .i64 p.stock, .int .i64 p.kerf], vV].toArray w0 fun e w => ∃ v, e = .returned v ∧ ∃ r n f e, v = .tuple #[r, .int .i64 e] ∧ ((¬ PlanOk p u ln pt cnt ∧ n = 0 ∧ e = 1) ∨ (PlanOk p u ln pt cnt ∧ n = p.m ∧ f = madeF u pt cnt ∧ e = 0)) ∧ Slh r n ∧ Sat w0 w [.own r 1 3 n (ints f)] := by
  have hm := h.L.slh.n0; have hm1 := h.L.slh.n1; have hd := h.D.slh.n0; have hd1 := h.D.slh.n1; have hs := h.is; have hk := h.ik
  have hu := hV.row.slh.n0; have hu1 := hV.row.slh.n1
  refine zenG Tryz.func58 Tryz.ntmps58 fun w hS => ?_
  refine zsr ?_
  refine zla (xbx (cs := [_, _, _, _]) hS) ?_; rintro _ w ⟨g1, rfl, hS⟩
  replace hS := hS.n1
  refine zs2 ?_
  refine zlt <| zsq <| zsr ?_
  refine zlv (xls 0 st_24 hS) ?_
  refine zlv xmv ?_
  refine zlc (xc0 cl_89) (c_vsound (u := u) (pv := pv) (ln := ln) (pt := pt) (cnt := cnt) (p := p) w (hV.below hS.below) (h.below hS.below)) ?_; rintro _ w ⟨rfl, hS'⟩
  replace hS := hS.cmp hS'; clear hS'
  refine zlv xnot ?_
  refine zlt ?_
  refine zcif ?_ ?_ <;> intro hc
  ·
   refine zsr ?_
   refine zs2 ?_
   refine zlt <| zrt <| ztr <| zf2 ⟨_, rfl, ?_⟩
   exact ⟨_, 0, fun _ => 0, 1, rfl, .inl ⟨‹¬ PlanOk p u ln pt cnt›, rfl, rfl⟩, slh_nil, (hS.sub (.cons _ .slnil)).addnil 1 3 (ints fun _ => 0)⟩
  refine zsk <| ztn <| zsr ?_
  refine zlv (xfb 0 fd_24_0) ?_
  have hplo : PlanOk p u ln pt cnt := by first | assumption | exact Classical.not_not.1 ‹_›
  have hpm1 := hplo.1.m1; have hpm2 := hplo.1.m2; have hu3 := hplo.2.1
  refine zlv (xlb 0 pl_22 hS) ?_
  refine zlv (xln sl_22 h.L.slh) ?_
  refine zla (xmk sl_22 el_3 hS) ?_; rintro v1 w ⟨hS, hv1⟩
  replace hS := hS.n2
  refine zlv xas ?_
  refine zlt <| zsq <| zsr ?_
  refine zlv xas ?_
  refine zlt <| zbk <| zlp (fun mm M w => ∃ (f : Int → Int) (i : Int), mm = ((u - i).toNat) ∧ (0 ≤ i) ∧ (i ≤ u) ∧ (∀ k, 0 ≤ k → k < p.m → f k = madeF i pt cnt k) ∧ M = [(1, vV), (4, .slice none 0 0), (5, .int .i64 0), (6, v1), (7, .int .i64 i)] ∧ Sat w0 w [.blk g1 [vL, vD, .int .i64 p.stock, .int .i64 p.kerf], .own v1 1 3 p.m (ints f)]) ⟨(fun _ => 0), 0, rfl, (by omega), (by omega), ?_, rfl, hS⟩ ?_
  ·
   intro k _ _; rfl
  clear hS w
  rintro mm M w ⟨f, i, rfl, h0, h1, hf, rfl, hS⟩
  refine zsq <| zsr ?_
  refine zs2 ?_
  refine zlv (xln sl_46 hV.row.slh) ?_
  refine zlv xlss ?_
  refine zlt ?_
  refine zcif ?_ ?_ <;> intro hc
  ·
   refine zsk <| ztn <| zsq <| zbk <| zsr ?_
   refine zlv xas ?_
   refine zlt <| zbk <| zlp (fun mm M w => ∃ (f2 : Int → Int) (j : Int), mm = ((p.m - j).toNat) ∧ (0 ≤ j) ∧ (j ≤ p.m) ∧ (∀ k, 0 ≤ k → k < p.m → f2 k = (if k < j then madeF (i + 1) pt cnt k else madeF i pt cnt k)) ∧ M = [(1, vV), (4, .slice none 0 0), (5, .int .i64 0), (6, v1), (7, .int .i64 i), (8, .int .i64 j)] ∧ Sat w0 w [.blk g1 [vL, vD, .int .i64 p.stock, .int .i64 p.kerf], .own v1 1 3 p.m (ints f2)]) ⟨f, 0, rfl, (by omega), (by omega), ?_, rfl, hS⟩ ?_
   ·
    intro k k0 k1; rw [if_neg (by omega)]; exact hf k k0 k1
   clear hS w
   rintro mm M w ⟨f2, j, rfl, j0, j1, hf2, rfl, hS⟩
   refine zsq <| zsr ?_
   refine zs2 ?_
   refine zlv (xln sl_22 hv1) ?_
   refine zlv xlss ?_
   refine zlt ?_
   refine zcif ?_ ?_ <;> intro hc
   ·
    refine zsk <| ztn <| zsq <| zbk ?_
    refine zdst [0, 1] [0] 20 mx_ hS ?_; clear hS; intro w hS
    refine zdv 0 (fun _ => xmv) ?_
    refine zdv 1 (fun _ => xmv) ?_
    refine zdv 2 (fun _ => (xix (kk := j) sl_22 hv1)) ?_
    refine zdl 3 (fun w hS => (xlr (u := .int .i64 (f2 j)) pl_3 (hS.rowN 1 rfl))) ?_
    obtain ⟨hq1, hq2, hq3⟩ := hplo.2.2 i h0 (by omega)
    have hq4 := hq3.eq
    have hpj := hq3.all j j0 (by omega)
    have hmr := madeF_rng hplo.2.2 h0 (by omega) (j := j) j0 (by omega)
    have hfj := hf2 j j0 (by omega)
    rw [if_neg (by omega)] at hfj
    have hmj := mul_rng3 hpj.1 hpj.2 (show 0 ≤ cnt i by omega) hq2
    refine zdv 4 (fun _ => xmv) ?_
    refine zdv 5 (fun _ => xmv) ?_
    refine zdv 6 (fun _ => (xix (kk := 2 * i) sl_46 hV.row.slh)) ?_
    refine zdv 7 (fun _ => (xfc (kk := 2 * i) fd_103_0 hV.row.slh)) ?_
    refine zdla 8 (fun w hS => (xlr (u := (pv i)) pl_22 (hV.row.below hS.below) (e := (ucells0 pv cnt (by omega))))) ?_
    refine zdv 9 (fun _ => xmv) ?_
    refine zdv 10 (fun _ => (xix (kk := j) sl_22 (hV.p i (by omega) (by omega)).slh)) ?_
    refine zdla 11 (fun w hS => (xlr (u := .int .i64 ((pt i) j)) pl_3 ((hV.p i (by omega) (by omega)).below hS.below))) ?_
    refine zdv 12 (fun _ => xmv) ?_
    refine zdv 13 (fun _ => xmv) ?_
    refine zdv 14 (fun _ => (xix (kk := 2 * i) sl_46 hV.row.slh)) ?_
    refine zdv 15 (fun _ => (xfc (kk := 2 * i + 1) fd_103_1 hV.row.slh)) ?_
    refine zdla 16 (fun w hS => (xlr (u := .int .i64 (cnt i)) pl_3 (hV.row.below hS.below) (e := (ucells1 pv cnt (by omega))))) ?_
    refine zdv 17 (fun _ => (xmul (r := (((pt i) j) * (cnt i))) (e := rfl))) ?_
    refine zdv 18 (fun _ => (xadd (r := f2 j + (((pt i) j) * (cnt i))))) ?_
    refine zdv 19 (fun _ => (xix (kk := j) sl_22 hv1)) ?_
    refine zde 20 (xso 1 pl_3 hS (upd_ints _ _ _)) ?_; clear hS; rintro w hS
    replace hS := hS.n2
    refine ⟨⟨fun h => absurd h (by decide), hS.pk [0]⟩, ?_⟩
    refine zdd <| zbn <| ztn <| zrg ?_
    refine zlv xmv ?_
    refine zlv (xadd (r := j + 1)) ?_
    refine zlv xas ?_
    refine zln <| zlq ⟨(upd f2 j (f2 j + (((pt i) j) * (cnt i)))), j + 1, rfl, (by omega), (by omega), ?_, rfl, hS⟩
    ·
     intro k k0 k1; unfold upd; by_cases e : k = j
     · rw [if_pos e, if_pos (by omega), e, madeF_next h0]; omega
     · rw [if_neg e, hf2 k k0 k1]; by_cases e2 : k < j
       · rw [if_pos e2, if_pos (by omega)]
       · rw [if_neg e2, if_neg (by omega)]
   refine zxt <| ztx <| ztx <| zbh <| zbn <| ztn <| zrg ?_
   refine zlv xmv ?_
   refine zlv (xadd (r := i + 1)) ?_
   refine zlv xas ?_
   refine zln <| zlq ⟨f2, i + 1, rfl, (by omega), (by omega), ?_, rfl, hS⟩
   ·
    intro k k0 k1; rw [hf2 k k0 k1, if_pos (by omega)]
  refine zxt <| ztx <| ztx <| zbh <| ztn <| zsr ?_
  refine zs3 ?_
  refine zlt <| zrt <| zf2 ⟨_, rfl, ?_⟩
  have hiu : i = u := by omega
  rw [hiu] at hf
  replace hS := hS.recont 1 rfl (d := ints (madeF u pt cnt)) (fun k k0 k1 => congrArg (Value.int .i64) (hf k k0 (by omega)))
  exact ⟨_, _, _, 0, rfl, .inr ⟨hplo, rfl, rfl, rfl⟩, hv1, hS.pk [1]⟩
theorem c_vmeets {vV : Value} {u : Int} {pv : Int → Value} {ln : Int → Int} {pt : Int → Int → Int} {cnt : Int → Int} {vL vD : Value} {p : Prob} (w0 : World) (hV : VAt w0 vV u pv ln pt cnt) (h : PAt w0 vL vD p) :
    Calls Tryz.prog 33 [.agg #[vL, vD, .int .i64 p.stock, .int .i64 p.kerf], vV].toArray w0 fun e w => ∃ v, e = .returned v ∧ v = B (PlanOk p u ln pt cnt ∧ ∀ j, 0 ≤ j → j < p.m → p.D j ≤ madeF u pt cnt j) ∧ Sat w0 w [] := by
  have hm := h.L.slh.n0; have hm1 := h.L.slh.n1; have hd := h.D.slh.n0; have hd1 := h.D.slh.n1; have hs := h.is; have hk := h.ik
  refine zenG Tryz.func33 Tryz.ntmps33 fun w hS => ?_
  refine zsr ?_
  refine zla (xbx (cs := [_, _, _, _]) hS) ?_; rintro _ w ⟨g1, rfl, hS⟩
  replace hS := hS.n1
  refine zlv xas ?_
  refine zlz ?_
  refine zlv (xls 0 st_24 hS) ?_
  refine zlv xmv ?_
  refine zlc (xc0 cl_58) (c_vmade (u := u) (pv := pv) (ln := ln) (pt := pt) (cnt := cnt) (p := p) w (hV.below hS.below) (h.below hS.below)) ?_; rintro _ w ⟨vdmd1, ndmd1, fdmd1, edmd1, rfl, hmdmd1, hvdmd1, hS'⟩
  replace hS : Sat w0 w [.blk g1 [vL, vD, .int .i64 p.stock, .int .i64 p.kerf], .own vdmd1 1 3 ndmd1 (ints fdmd1)] := hS.comp hS'; clear hS'
  refine zs5 ?_
  refine zlt <| zsq <| zsr ?_
  refine zs2 ?_
  refine zlt ?_
  refine zcif ?_ ?_ <;> intro hc
  ·
   refine zsr ?_
   refine zlv xas ?_
   refine zlt <| zrt <| ztr <| zf1 ⟨_, rfl, ?_⟩
   refine ⟨false_B ?_, hS.nl⟩
   first
   | (intro hh; have h9 := hh.2 i h0 (by omega); rw [← hA3] at h9; omega)
   | (rcases hmdmd1 with ⟨q1, _⟩ | ⟨_, _, _, q4⟩; exact fun hh => q1 hh.1; omega)
  refine zsk <| ztn <| zsq <| zsr ?_
  refine zlv xas ?_
  refine zlt <| zbk ?_
  obtain ⟨hA1, hA2, hA3⟩ : PlanOk p u ln pt cnt ∧ ndmd1 = p.m ∧ fdmd1 = madeF u pt cnt := by rcases hmdmd1 with ⟨_, _, q3⟩ | ⟨q1, q2, q3, _⟩; omega; exact ⟨q1, q2, q3⟩
  have hpd := hA1.1.d
  refine zlp (fun mm M w => ∃ (i : Int), mm = ((ndmd1 - i).toNat) ∧ (0 ≤ i) ∧ (i ≤ ndmd1) ∧ (∀ k, 0 ≤ k → k < i → p.D k ≤ fdmd1 k) ∧ M = [(2, .pointer (some ⟨g1, 0, none⟩)), (5, vdmd1), (7, .int .i64 i)] ∧ Sat w0 w [.blk g1 [vL, vD, .int .i64 p.stock, .int .i64 p.kerf], .own vdmd1 1 3 ndmd1 (ints fdmd1)]) ⟨0, rfl, (by omega), (by omega), ?_, rfl, hS⟩ ?_
  ·
   intro k h0 h1; omega
  clear hS w
  rintro mm M w ⟨i, rfl, h0, h1, hall, rfl, hS⟩
  refine zsq <| zsr ?_
  refine zs2 ?_
  refine zlv (xln sl_22 hvdmd1) ?_
  refine zlv xlss ?_
  refine zlt ?_
  refine zcif ?_ ?_ <;> intro hc
  ·
   refine zsk <| ztn <| zsq <| zbk <| zsq ?_
   refine zdst [0, 1] [0, 1] 1000 mx_ hS ?_; clear hS; intro w hS
   refine zdv 0 (fun _ => xmv) ?_
   refine zdv 1 (fun _ => xmv) ?_
   refine zdv 2 (fun _ => (xix (kk := i) sl_22 hvdmd1)) ?_
   refine zdla 3 (fun w hS => (xlr (u := .int .i64 (fdmd1 i)) pl_3 (hS.rowN 1 rfl))) ?_
   refine zdv 4 (fun _ => (xfb 1 fd_24_1)) ?_
   refine zdla 5 (fun w hS => (xlb 0 pl_22 hS)) ?_
   refine zdv 6 (fun _ => xmv) ?_
   refine zdv 7 (fun _ => (xix (kk := i) sl_22 h.D.slh)) ?_
   refine zdla 8 (fun w hS => (xlr (u := .int .i64 (p.D i)) pl_3 (h.D.below hS.below))) ?_
   have hbv := h.iD i
   refine zdv 9 (fun _ => xlss) ?_
   refine zdd <| ztn ?_
   refine zcif ?_ ?_ <;> intro hc
   ·
    refine zsr ?_
    refine zlv xas ?_
    refine zlt <| zrt <| zbr <| ztr <| ztr <| zbr <| ztr <| zf1 ⟨_, rfl, ?_⟩
    refine ⟨false_B ?_, hS.nl⟩
    first
    | (intro hh; have h9 := hh.2 i h0 (by omega); rw [← hA3] at h9; omega)
    | (rcases hmdmd1 with ⟨q1, _⟩ | ⟨_, _, _, q4⟩; exact fun hh => q1 hh.1; omega)
   refine zsk <| zbn <| ztn <| zrg ?_
   refine zlv xmv ?_
   refine zlv (xadd (r := i + 1)) ?_
   refine zlv xas ?_
   refine zln <| zlq ⟨i + 1, rfl, (by omega), (by omega), ?_, rfl, hS⟩
   ·
    intro k h0' h1'; rcases Int.lt_or_eq_of_le (show k ≤ i by omega) with hk | hk; exact hall k h0' hk; rw [hk]; omega
  refine zxt <| ztx <| ztx <| zbh <| ztn <| zsr ?_
  refine zlv xas ?_
  refine zlt <| zrt <| zf1 ⟨_, rfl, ?_⟩
  refine ⟨true_B ⟨hA1, fun j j0 j1 => ?_⟩, hS.nl⟩
  have := hall j j0 (by omega); rw [hA3] at this; exact this
theorem c_vbars {vV : Value} {u : Int} {pv : Int → Value} {ln : Int → Int} {pt : Int → Int → Int} {cnt : Int → Int} (w0 : World) (hV : VAt w0 vV u pv ln pt cnt) (hu6 : u ≤ 1000000) (hbc : ∀ k, 0 ≤ k → k < u → 0 ≤ cnt k ∧ cnt k ≤ 1000000000) :
    Calls Tryz.prog 34 [vV].toArray w0 fun e w => ∃ v, e = .returned v ∧ v = .int .i64 (psum (fun _ => 1) cnt u.toNat) ∧ Sat w0 w [] := by
  have hn := hV.row.slh.n0; have hn1 := hV.row.slh.n1
  refine zenG Tryz.func34 Tryz.ntmps34 fun w hS => ?_
  refine zsr ?_
  refine zlv xas ?_
  refine zlz ?_
  refine zlv xas ?_
  refine zlt <| zsq <| zsr ?_
  refine zlv xas ?_
  refine zlt <| zbk <| zlp (fun mm M w => ∃ (s : Int) (i : Int), mm = ((u - i).toNat) ∧ (0 ≤ i) ∧ (i ≤ u) ∧ (s = psum (fun _ => 1) cnt i.toNat) ∧ (0 ≤ s ∧ s ≤ 1000000000 * i) ∧ M = [(0, vV), (2, .int .i64 0), (3, .int .i64 s), (4, .int .i64 i)] ∧ Sat w0 w []) ⟨0, 0, rfl, (by omega), (by omega), ?_, (by omega), rfl, hS⟩ ?_
  ·
   rfl
  clear hS w
  rintro mm M w ⟨s, i, rfl, h0, h1, hs9, hsb, rfl, hS⟩
  refine zsq <| zsr ?_
  refine zs2 ?_
  refine zlv (xln sl_46 hV.row.slh) ?_
  refine zlv xlss ?_
  refine zlt ?_
  refine zcif ?_ ?_ <;> intro hc
  ·
   refine zsk <| ztn <| zsq <| zbk <| zrg ?_
   refine zs3 ?_
   refine zlv (xix (kk := 2 * i) sl_46 hV.row.slh) ?_
   refine zlv (xfc (kk := 2 * i + 1) fd_103_1 hV.row.slh) ?_
   refine zlv (xlr (u := .int .i64 (cnt i)) pl_3 (hV.row.below hS.below) (e := (ucells1 pv cnt (by omega)))) ?_
   have hci := hbc i h0 (by omega)
   refine zlv (xadd (r := s + (cnt i))) ?_
   refine zlv xas ?_
   refine zln <| zbn <| ztn <| zrg ?_
   refine zlv xmv ?_
   refine zlv (xadd (r := i + 1)) ?_
   refine zlv xas ?_
   refine zln <| zlq ⟨s + (cnt i), i + 1, rfl, (by omega), (by omega), ?_, (by omega), rfl, hS⟩
   ·
    rw [psum_next _ _ h0, ← hs9]; omega
  refine zxt <| ztx <| ztx <| zbh <| ztn <| zsr ?_
  refine zs2 ?_
  refine zlt <| zrt <| zf1 ⟨_, rfl, ?_⟩
  obtain rfl : i = u := by omega
  exact ⟨congrArg (Value.int .i64) hs9, hS⟩
theorem c_ownp {vV : Value} {n : Int} {pv : Int → Value} {ln : Int → Int} {pt : Int → Int → Int} {cnt : Int → Int} (w0 : World) (hV : VAt w0 vV n pv ln pt cnt) (hn5 : n ≤ 100000) :
    Calls Tryz.prog 24 [vV].toArray w0 fun e w => ∃ v, e = .returned v ∧ ∃ r, v = r ∧ Slh r n ∧ Sat w0 w [.own r 2 107 n (ucells pv cnt)] := by
  have hn := hV.row.slh.n0; have hn1 := hV.row.slh.n1
  refine zenG Tryz.func24 Tryz.ntmps24 fun w hS => ?_
  refine zsr ?_
  refine zlv xas ?_
  refine zlz ?_
  refine zlv xas ?_
  refine zlt <| zsq <| zsr ?_
  refine zlv xmv ?_
  refine zlv (xln sl_46 hV.row.slh) ?_
  refine zlv xmv ?_
  refine zlt <| zbk ?_
  replace hS := hS.addnil 2 107 (ucells (fun _ => Value.slice none 0 0) (fun _ => 0))
  replace hS := hS.n1
  refine zlp (fun mm M w => ∃ (nC : Int) (wv : Int → Value) (cC : Int → Int) (i : Int) (wC : Value), mm = ((n - i).toNat) ∧ (0 ≤ i) ∧ (i ≤ n) ∧ (nC = i) ∧ (∀ k, 0 ≤ k → k < i → wv k = pv k) ∧ (∀ k, 0 ≤ k → k < i → cC k = cnt k) ∧ (Slh wC nC) ∧ M = [(2, .slice none 0 0), (3, wC), (6, vV), (7, .int .i64 n), (8, .int .i64 i)] ∧ Sat w0 w [.own wC 2 107 nC (ucells wv cC)]) ⟨0, (fun _ => Value.slice none 0 0), (fun _ => 0), 0, (.slice none 0 0), rfl, (by omega), (by omega), (by omega), ?_, ?_, ?_, rfl, hS⟩ ?_
  ·
   intro k k0 k1; omega
  ·
   intro k k0 k1; omega
  ·
   exact slh_nil
  clear hS w
  rintro mm M w ⟨nC, wv, cC, i, wC, rfl, h0, h1, hnC, hwv, hcC, hwC, rfl, hS⟩
  refine zsr ?_
  refine zlv xlss ?_
  refine zlt <| zsq ?_
  refine zcif ?_ ?_ <;> intro hc
  ·
   refine zsk <| ztn <| zsq <| zbk <| zsr ?_
   refine zlv (xix (kk := 2 * i) sl_46 hV.row.slh) ?_
   refine zlv (xlw (cs := [(pv i), .int .i64 (cnt i)]) st_103 (hV.row.below hS.below) (ucells_at (k := 2 * i) (i := i) pv cnt (by omega))) ?_
   refine zla (xal (cs := [_, _]) el_103 hS) ?_; rintro _ w ⟨g1, rfl, hS⟩
   replace hS := hS.n2
   refine zle (xsw 1 st_103 hS (hd := (ones_cons (hV.p i (by omega) (by omega)).slh.one (ones_cons rfl ones_nil)))) ?_; clear hS; rintro w hS
   replace hS := hS.n2
   refine zlt <| zrg ?_
   refine zlv xmv ?_
   refine zlv (xls 1 st_103 hS) ?_
   refine zla (xli (n := 1) (len := 1) (pv := [(0, .agg #[(pv i), .int .i64 (cnt i)])]) (cs := [(pv i), .int .i64 (cnt i)]) (c := ucells (fun _ => (pv i)) (fun _ => (cnt i))) sl_60 el_107 hS (hf := by have hz := (hV.p i (by omega) (by omega)).slh; revert hz; generalize (pv i) = z; rintro ⟨_, _, _, _, rfl, _⟩; show _ = _; kernel_rfl)) ?_; rintro v1 w ⟨hS, hv1⟩
   replace hS := hS.n3
   refine zla (xap 0 (r := nC + 1) sl_60 el_107 hS (hS.rowN 2 rfl) (cat_ucells _ _ _ _ _) (h1 := fun k _ _ => ucells_one (fun _ => (hV.p i (by omega) (by omega)).slh.one) k)) ?_; rintro v2 w ⟨hS, hv2⟩
   replace hS := hS.n3
   refine zlv xas ?_
   refine zln <| zbn <| ztn <| zrg ?_
   refine zlv (xadd (r := i + 1)) ?_
   refine zlv xmv ?_
   refine zln <| zlq ⟨nC + 1, (gsn wv nC (pv i)), (snoc cC nC (cnt i)), i + 1, v2, rfl, (by omega), (by omega), (by omega), ?_, ?_, ?_, rfl, hS.pk [0]⟩
   ·
    intro k k0 k1; by_cases e : k < nC
    · rw [gsn_lt e]; exact hwv k k0 (by omega)
    · rw [gsn_at e, show k = i by omega]
   ·
    intro k k0 k1; by_cases e : k < nC
    · rw [snoc_lt e]; exact hcC k k0 (by omega)
    · rw [snoc_at e, show k = i by omega]
   ·
    exact hv2
  refine zxt <| ztx <| ztx <| zbh <| ztn <| zsr ?_
  refine zs2 ?_
  refine zlt <| zrt <| zf1 ⟨_, rfl, ?_⟩
  obtain rfl : i = n := by omega
  subst hnC
  replace hS := hS.recont 0 rfl (d := ucells pv cnt) (fun k k0 k1 => by unfold ucells; rw [hwv _ (by omega) (by omega), hcC _ (by omega) (by omega)])
  exact ⟨_, rfl, hwC, hS⟩
end Go.Proofs.YtkichmnjjblodaaGreat
namespace Go.Proofs.YtkichmnjjblodaaGreat
open Go Go.RowKit Go.Proofs.Gw
theorem cl_21 : calledT Tryz.prog 21 = true := by kernel_rfl
theorem cl_23 : calledT Tryz.prog 23 = true := by kernel_rfl
theorem cl_33 : calledT Tryz.prog 33 = true := by kernel_rfl
theorem cl_34 : calledT Tryz.prog 34 = true := by kernel_rfl
theorem cl_39 : calledT Tryz.prog 39 = true := by kernel_rfl
theorem cl_53 : calledT Tryz.prog 53 = true := by kernel_rfl
theorem cl_54 : calledT Tryz.prog 54 = true := by kernel_rfl
theorem cl_69 : calledT Tryz.prog 69 = true := by kernel_rfl
theorem cl_70 : calledT Tryz.prog 70 = true := by kernel_rfl
theorem fd_58_0 : fieldT Tryz.prog 58 0 = some 0 := by kernel_rfl
theorem fd_58_1 : fieldT Tryz.prog 58 1 = some 1 := by kernel_rfl
theorem fd_58_2 : fieldT Tryz.prog 58 2 = some 2 := by kernel_rfl
theorem fd_63_0 : fieldT Tryz.prog 63 0 = some 0 := by kernel_rfl
theorem fd_63_1 : fieldT Tryz.prog 63 1 = some 1 := by kernel_rfl
theorem fd_63_2 : fieldT Tryz.prog 63 2 = some 2 := by kernel_rfl
theorem pl_46 : plainT Tryz.prog 46 = true := by kernel_rfl
theorem pl_60 : plainT Tryz.prog 60 = true := by kernel_rfl
theorem c_eq0 {v : Value} {n : Int} {f : Int → Int} (w0 : World) (hR : Row w0 v 1 n (ints f)) :
    Calls Tryz.prog 69 [v, .slice none 0 0].toArray w0 fun e w => ∃ v, e = .returned v ∧ v = B (n = 0) ∧ Sat w0 w [] := by
  have hn := hR.slh.n0
  refine zenG Tryz.func69 Tryz.ntmps69 fun w hS => ?_
  refine zsr ?_
  refine zlv xas ?_
  refine zlt <| zsq <| zsr ?_
  refine zlv xmv ?_
  refine zlv (xln sl_22 hR.slh) ?_
  refine zlv xmv ?_
  refine zlv (xln sl_22 slh_nil) ?_
  refine zlv xneq ?_
  refine zlt ?_
  refine zcif ?_ ?_ <;> intro hc
  ·
   refine zsr ?_
   refine zlv xas ?_
   refine zlt <| zrt <| ztr <| zf1 ⟨_, rfl, ?_⟩
   exact ⟨false_B (by omega), hS⟩
  refine zsk <| ztn <| zsq <| zsr ?_
  refine zlv xmv ?_
  refine zlv (xln sl_22 hR.slh) ?_
  refine zlv xmv ?_
  refine zlt <| zbk <| zlp (fun mm M w => ∃ (i : Int), mm = ((n - i).toNat) ∧ (0 ≤ i) ∧ (i ≤ n) ∧ M = [(0, v), (1, .slice none 0 0), (12, .int .i64 n), (13, .int .i64 i)] ∧ Sat w0 w []) ⟨0, rfl, (by omega), (by omega), rfl, hS⟩ ?_
  clear hS w
  rintro mm M w ⟨i, rfl, h0, h1, rfl, hS⟩
  refine zsr ?_
  refine zlv (xkf xlss) ?_
  refine zlt <| zsq <| zcf <| zxt <| ztx <| ztx <| zbh <| ztn <| zsr ?_
  refine zlv xas ?_
  refine zlt <| zrt <| zf1 ⟨_, rfl, ?_⟩
  exact ⟨true_B (by omega), hS⟩
theorem c_eqt0 {t : Tr} (w0 : World) (hK : KAt w0 t) (hV : LvAt w0 t) :
    Calls Tryz.prog 70 [t.vK, .slice none 0 0, .func (.func 39) #[] #[]].toArray w0 fun e w => ∃ v, e = .returned v ∧ v = B (t.n = 0) ∧ Sat w0 w [] := by
  have hn := hK.row.slh.n0; have hn1 := hK.row.slh.n1; have hln := hV.leaf.row.slh.n0; have hln1 := hV.leaf.row.slh.n1
  refine zenG Tryz.func70 Tryz.ntmps70 fun w hS => ?_
  refine zsr ?_
  refine zlv xas ?_
  refine zlt <| zsq <| zsr ?_
  refine zlv xmv ?_
  refine zlv (xln sl_52 (hK).row.slh) ?_
  refine zlv xmv ?_
  refine zlv (xln sl_52 slh_nil) ?_
  refine zlv xneq ?_
  refine zlt ?_
  refine zcif ?_ ?_ <;> intro hc
  ·
   refine zsr ?_
   refine zlv xas ?_
   refine zlt <| zrt <| ztr <| zf1 ⟨_, rfl, ?_⟩
   exact ⟨false_B (by omega), hS⟩
  refine zsk <| ztn <| zsq <| zsr ?_
  refine zlv xmv ?_
  refine zlv (xln sl_52 (hK).row.slh) ?_
  refine zlv xmv ?_
  refine zlt <| zbk <| zlp (fun mm M w => ∃ (i : Int), mm = ((t.n - i).toNat) ∧ (0 ≤ i) ∧ (i ≤ t.n) ∧ M = [(1, .slice none 0 0), (2, .func (.func 39) #[] #[]), (15, t.vK), (16, .int .i64 t.n), (17, .int .i64 i)] ∧ Sat w0 w []) ⟨0, rfl, (by omega), (by omega), rfl, hS⟩ ?_
  clear hS w
  rintro mm M w ⟨i, rfl, h0, h1, rfl, hS⟩
  refine zsr ?_
  refine zlv (xkf xlss) ?_
  refine zlt <| zsq <| zcf <| zxt <| ztx <| ztx <| zbh <| ztn <| zsr ?_
  refine zlv xas ?_
  refine zlt <| zrt <| zf1 ⟨_, rfl, ?_⟩
  exact ⟨true_B (by omega), hS⟩
def Empt (t : Tr) : Prop := t.s = 0 ∧ t.nl = 0 ∧ t.n = 0
noncomputable def RightP (p : Prob) (nb u : Int) (ln : Int → Int) (pt : Int → Int → Int) (cnt : Int → Int) (t : Tr) : Prop := (PlanOk p u ln pt cnt ∧ ∀ j, 0 ≤ j → j < p.m → p.D j ≤ madeF u pt cnt j) ∧ psum (fun _ => 1) cnt u.toNat = nb ∧ ((nb = 0 ∧ Empt t) ∨ (nb ≠ 0 ∧ chkE t p (nb - 1) = 0))
theorem sim_chkE {t u : Tr} (h : Sim t u) (p : Prob) (b : Int) : Go.Proofs.YtkichmnjjblodaaGreat.chkE u p b = Go.Proofs.YtkichmnjjblodaaGreat.chkE t p b := by
  unfold Go.Proofs.YtkichmnjjblodaaGreat.chkE; rw [Sim.wr t h]; congr 1; rw [h.valid]
theorem sim_chkL {t u : Tr} (h : Sim t u) (p : Prob) (b : Int) : Go.Proofs.YtkichmnjjblodaaGreat.chkL u p b = Go.Proofs.YtkichmnjjblodaaGreat.chkL t p b := by
  unfold Go.Proofs.YtkichmnjjblodaaGreat.chkL; rw [Sim.wr t h]; congr 1; rw [h.valid]
theorem sim_empt {t u : Tr} (h : Sim t u) : Empt u ↔ Empt t := by obtain ⟨h1, h2, _, h4, _⟩ := h.of; unfold Empt; rw [h1, h2, h4]
theorem sim_right {t u : Tr} (h : Sim t u) {p : Prob} {nb n : Int} {ln cnt : Int → Int} {pt : Int → Int → Int} : RightP p nb n ln pt cnt u ↔ RightP p nb n ln pt cnt t := by unfold RightP; rw [sim_empt h, sim_chkE h]
theorem c_same35 {t : Tr} (w0 : World) (hK : KAt w0 t) (hV : LvAt w0 t) :
    Calls Tryz.prog 39 [.agg #[.int .i64 t.s, t.vK, t.vL], .agg #[.int .i64 0, .slice none 0 0, .slice none 0 0]].toArray w0 fun e w => ∃ v, e = .returned v ∧ v = B (Empt t) ∧ Sat w0 w [] := by
  have hn := hK.row.slh.n0; have hn1 := hK.row.slh.n1; have hln := hV.leaf.row.slh.n0; have hln1 := hV.leaf.row.slh.n1
  refine zenG Tryz.func39 Tryz.ntmps39 fun w hS => ?_
  refine zsr ?_
  refine zla (xbx (cs := [_, _, _]) hS) ?_; rintro _ w ⟨g1, rfl, hS⟩
  replace hS := hS.n1
  refine zla (xbx (cs := [_, _, _]) hS) ?_; rintro _ w ⟨g2, rfl, hS⟩
  replace hS := hS.n2
  refine zlv xas ?_
  refine zlz ?_
  refine zlv (xfb 0 fd_54_0) ?_
  refine zlv (xlb 0 pl_3 hS) ?_
  refine zlv (xfb 0 fd_54_0) ?_
  refine zlv (xlb 1 pl_3 hS) ?_
  refine zs2 ?_
  refine zlb 10 ?_ ?_ <;> intro hc
  ·
   refine zlv (xfb 2 fd_54_2) ?_
   refine zlv (xlb 0 pl_22 hS) ?_
   refine zlv (xfb 2 fd_54_2) ?_
   refine zlv (xlb 1 pl_22 hS) ?_
   refine zlc (xc0 cl_69) (c_eq0 (n := t.nl) (f := t.l) w ((hV).leaf.row.below hS.below)) ?_; rintro _ w ⟨rfl, hS'⟩
   replace hS := hS.cmp hS'; clear hS'
   refine zs2 ?_
   refine zlb 17 ?_ ?_ <;> intro hc
   ·
    refine zlv (xfb 1 fd_54_1) ?_
    refine zlv (xlb 0 pl_52 hS) ?_
    refine zlv (xfb 1 fd_54_1) ?_
    refine zlv (xlb 1 pl_52 hS) ?_
    refine zlc (xc0 cl_70) (c_eqt0 (t := t) w (KAt.below hS.below (hK)) (LvAt.below hS.below (hV))) ?_; rintro _ w ⟨rfl, hS'⟩
    replace hS := hS.cmp hS'; clear hS'
    refine zs2 ?_
    refine zlt <| zrt <| zf1 ⟨_, rfl, ?_⟩
    exact ⟨B_congr ⟨fun hh => ⟨by omega, by first | assumption | omega, hh⟩, fun hh => hh.2.2⟩, hS.nl⟩
   iterate 5 refine zlo ?_
   refine zs2 ?_
   refine zlt <| zrt <| zf1 ⟨_, rfl, ?_⟩
   exact ⟨false_B (by rintro ⟨h1, h2, h3⟩; first | omega | contradiction), hS.nl⟩
  iterate 5 refine zlo ?_
  refine zs2 ?_
  iterate 5 refine zlo ?_
  refine zs2 ?_
  refine zlt <| zrt <| zf1 ⟨_, rfl, ?_⟩
  exact ⟨false_B (by rintro ⟨h1, h2, h3⟩; first | omega | contradiction), hS.nl⟩
theorem psum_rng1 {p : Prob} {u : Int} {ln cnt : Int → Int} {pt : Int → Int → Int} (h : PlanOk p u ln pt cnt) : 0 ≤ psum (fun _ => 1) cnt u.toNat ∧ psum (fun _ => 1) cnt u.toNat ≤ 1000000 := by
  have h1 : ∀ n : Nat, (n : Int) ≤ u → 0 ≤ psum (fun _ => 1) cnt n ∧ psum (fun _ => 1) cnt n ≤ 1000 * n := fun n => by
    induction n with
    | zero => intro _; simp [psum]
    | succ n ih =>
      intro hn
      have h2 := ih (by omega)
      have h3 := h.2.2 n (by omega) (by omega)
      simp only [psum]; omega
  have h4 := h.2.1
  by_cases hu : 0 ≤ u
  · have h5 := h1 u.toNat (by omega); omega
  · rw [show u.toNat = 0 by omega]; simp [psum]
theorem c_right {vV : Value} {u : Int} {pv : Int → Value} {ln : Int → Int} {pt : Int → Int → Int} {cnt : Int → Int} {vL vD : Value} {p : Prob} {nb : Int} {t : Tr} (w0 : World) (hV : VAt w0 vV u pv ln pt cnt) (h : PAt w0 vL vD p) (hK : KAt w0 t) (hT : LvAt w0 t) (hu5 : u ≤ 1000) :
    Calls Tryz.prog 26 [.agg #[vL, vD, .int .i64 p.stock, .int .i64 p.kerf], .agg #[.int .i64 nb, vV, .int .i64 t.s, t.vK, t.vL]].toArray w0 fun e w => ∃ v, e = .returned v ∧ v = B (RightP p nb u ln pt cnt t) ∧ Sat w0 w [] := by
  have hm := h.L.slh.n0; have hm1 := h.L.slh.n1; have hd := h.D.slh.n0; have hd1 := h.D.slh.n1; have hs := h.is; have hk := h.ik
  have hn := hK.row.slh.n0; have hn1 := hK.row.slh.n1; have hln := hT.leaf.row.slh.n0; have hln1 := hT.leaf.row.slh.n1
  have hu := hV.row.slh.n0; have hu1 := hV.row.slh.n1
  refine zenG Tryz.func26 Tryz.ntmps26 fun w hS => ?_
  refine zsr ?_
  refine zla (xbx (cs := [_, _, _, _]) hS) ?_; rintro _ w ⟨g1, rfl, hS⟩
  replace hS := hS.n1
  refine zla (xbx (cs := [_, _, _, _, _]) hS) ?_; rintro _ w ⟨g2, rfl, hS⟩
  replace hS := hS.n2
  refine zlv xas ?_
  refine zlt <| zsq <| zsq ?_
  refine zdst [0, 1] [0, 1] 1000 mx_ hS ?_; clear hS; intro w hS
  refine zdla 0 (fun w hS => (xls 0 st_32 hS)) ?_
  refine zdv 1 (fun _ => (xfb 1 fd_63_1)) ?_
  refine zdla 2 (fun w hS => (xlb 1 pl_60 hS)) ?_
  refine zdc 3 (xc0 cl_53) (c_pmeets (u := u) (pv := pv) (ln := ln) (pt := pt) (cnt := cnt) (p := p) w (hV.below hS.below) (h.below hS.below)) ?_; rintro _ w ⟨rfl, hS'⟩
  replace hS := hS.cmp hS'; clear hS'
  refine ⟨⟨fun _ => hS, hS⟩, ?_⟩
  refine zdv 4 (fun _ => xnot) ?_
  refine zdv 5 (fun _ => xmv) ?_
  refine zdb 12 ?_ ?_ <;> intro hc
  ·
   refine zdof 6 ?_
   refine zdof 7 ?_
   refine zdof 9 ?_
   refine zdof 10 ?_
   refine zdof 8 ?_
   refine zdof 11 ?_
   refine zdv 12 (fun _ => xpt) ?_
   refine zdd <| ztn <| zct <| zsr ?_
   refine zlv xas ?_
   refine zlt <| zrt <| ztr <| zf1 ⟨_, rfl, ?_⟩
   exact ⟨false_B (by rintro ⟨h1, h2, h3⟩; first | omega | exact absurd h1 ‹¬ (PlanOk p u ln pt cnt ∧ ∀ j, 0 ≤ j → j < p.m → p.D j ≤ madeF u pt cnt j)› | exact absurd h1.1.1 ‹¬ p.Ok› | (rcases h3 with ⟨h4, h5, h6, h7⟩ | ⟨h4, _⟩ <;> omega)), hS.nl⟩
  refine zdv 6 (fun _ => (xfb 1 fd_63_1)) ?_
  refine zdla 7 (fun w hS => (xlb 1 pl_60 hS)) ?_
  refine zdv 9 (fun _ => (xfb 0 fd_63_0)) ?_
  have hbr := psum_rng1 (show PlanOk p u ln pt cnt ∧ ∀ j, 0 ≤ j → j < p.m → p.D j ≤ madeF u pt cnt j by first | assumption | exact Classical.not_not.1 ‹_›).1
  refine zdla 10 (fun w hS => (xlb 1 pl_3 hS)) ?_
  refine zdc 8 (xc0 cl_54) (c_pbars (u := u) (pv := pv) (ln := ln) (pt := pt) (cnt := cnt) w (hV.below hS.below) (by omega) (fun k k0 k1 => by have h9 := (show PlanOk p u ln pt cnt ∧ ∀ j, 0 ≤ j → j < p.m → p.D j ≤ madeF u pt cnt j by first | assumption | exact Classical.not_not.1 ‹_›).1.2.2 k k0 k1; omega)) ?_; rintro _ w ⟨rfl, hS'⟩
  replace hS := hS.cmp hS'; clear hS'
  refine ⟨⟨fun _ => hS, hS⟩, ?_⟩
  refine zdv 11 (fun _ => xneq) ?_
  refine zdv 12 (fun _ => xpf) ?_
  refine zdd <| ztn ?_
  refine zcif ?_ ?_ <;> intro hc
  ·
   refine zsr ?_
   refine zlv xas ?_
   refine zlt <| zrt <| ztr <| zf1 ⟨_, rfl, ?_⟩
   exact ⟨false_B (by rintro ⟨h1, h2, h3⟩; first | omega | exact absurd h1 ‹¬ (PlanOk p u ln pt cnt ∧ ∀ j, 0 ≤ j → j < p.m → p.D j ≤ madeF u pt cnt j)› | exact absurd h1.1.1 ‹¬ p.Ok› | (rcases h3 with ⟨h4, h5, h6, h7⟩ | ⟨h4, _⟩ <;> omega)), hS.nl⟩
  refine zsk <| ztn <| zsq <| zsr ?_
  refine zlv (xfb 0 fd_63_0) ?_
  refine zlv (xlb 1 pl_3 hS) ?_
  refine zlv xeql ?_
  refine zlt ?_
  refine zcif ?_ ?_ <;> intro hc
  ·
   refine zsr ?_
   refine zlv (xfb 2 fd_63_2) ?_
   refine zlv (xlp 1 (ds := [.int .i64 t.s, t.vK, t.vL]) st_54 hS) ?_
   refine zlv (xany (v := .agg #[.int .i64 0, .slice none 0 0, .slice none 0 0])) ?_
   refine zlc (xc0 cl_39) (c_same35 (t := t) w (KAt.below hS.below (hK)) (LvAt.below hS.below (hT))) ?_; rintro _ w ⟨rfl, hS'⟩
   replace hS := hS.cmp hS'; clear hS'
   refine zlv xas ?_
   refine zlt <| zrt <| ztr <| zf1 ⟨_, rfl, ?_⟩
   have hme : PlanOk p u ln pt cnt ∧ ∀ j, 0 ≤ j → j < p.m → p.D j ≤ madeF u pt cnt j := by first | assumption | exact Classical.not_not.1 ‹_›
   first
   | exact ⟨B_congr ⟨fun hh => ⟨hme, by omega, .inl ⟨by omega, by first | exact hh | exact ⟨by omega, by omega, by omega⟩⟩⟩, fun hh => by rcases hh.2.2 with ⟨h4, h5⟩ | ⟨h4, h5⟩; (first | exact h5 | exact h5.1 | (obtain ⟨h6, h7, h8⟩ := h5; omega)); omega⟩, hS.nl⟩
   | exact ⟨B_congr ⟨fun hh => ⟨hme, by omega, .inr ⟨by omega, hh⟩⟩, fun hh => by rcases hh.2.2 with ⟨h4, h5⟩ | ⟨h4, h5⟩; omega; exact h5⟩, hS.nl⟩
  refine zsk <| ztn <| zsr ?_
  refine zlv (xls 0 st_32 hS) ?_
  refine zlv (xfb 0 fd_63_0) ?_
  refine zlv (xlb 1 pl_3 hS) ?_
  refine zlv (xsub (r := nb - 1)) ?_
  refine zlv (xany (v := .agg #[vL, vD, .int .i64 p.stock, .int .i64 p.kerf, .int .i64 (nb - 1)]) (hr := by obtain ⟨_, _, _, _, rfl, _⟩ := h.L.slh; obtain ⟨_, _, _, _, rfl, _⟩ := h.D.slh; kernel_rfl)) ?_
  refine zlv (xfb 2 fd_63_2) ?_
  refine zlv (xlp 1 (ds := [.int .i64 t.s, t.vK, t.vL]) st_54 hS) ?_
  refine zlc (xc0 cl_21) (c_chk (t := t) (p := p) (b := (nb - 1)) w (h.below hS.below) (KAt.below hS.below (hK)) (LvAt.below hS.below (hT))) ?_; rintro _ w ⟨rk1, k1, fk1, rfl, hrk1, hik1, hS'⟩
  replace hS : Sat w0 w [.blk g1 [vL, vD, .int .i64 p.stock, .int .i64 p.kerf], .blk g2 [.int .i64 nb, vV, .int .i64 t.s, t.vK, t.vL], .sem (Frame.dq 3 rk1 k1 fk1)] := hS.comp hS'; clear hS'
  refine zs5 ?_
  refine zlz ?_
  refine zs3 ?_
  refine zlt <| zrt <| zf1 ⟨_, rfl, ?_⟩
  have hme : PlanOk p u ln pt cnt ∧ ∀ j, 0 ≤ j → j < p.m → p.D j ≤ madeF u pt cnt j := by first | assumption | exact Classical.not_not.1 ‹_›
  first
  | exact ⟨B_congr ⟨fun hh => ⟨hme, by omega, .inl ⟨by omega, by first | exact hh | exact ⟨by omega, by omega, by omega⟩⟩⟩, fun hh => by rcases hh.2.2 with ⟨h4, h5⟩ | ⟨h4, h5⟩; (first | exact h5 | exact h5.1 | (obtain ⟨h6, h7, h8⟩ := h5; omega)); omega⟩, hS.nl⟩
  | exact ⟨B_congr ⟨fun hh => ⟨hme, by omega, .inr ⟨by omega, hh⟩⟩, fun hh => by rcases hh.2.2 with ⟨h4, h5⟩ | ⟨h4, h5⟩; omega; exact h5⟩, hS.nl⟩
theorem c_rright {vV : Value} {u : Int} {pv : Int → Value} {ln : Int → Int} {pt : Int → Int → Int} {cnt : Int → Int} {vL vD : Value} {p : Prob} {nb : Int} {t : Tr} (w0 : World) (hV : VAt w0 vV u pv ln pt cnt) (h : PAt w0 vL vD p) (hK : KAt w0 t) (hT : LvAt w0 t) (hu5 : u ≤ 1000) :
    Calls Tryz.prog 27 [.agg #[vL, vD, .int .i64 p.stock, .int .i64 p.kerf], .agg #[.int .i64 nb, vV, .int .i64 t.s, t.vK, t.vL]].toArray w0 fun e w => ∃ v, e = .returned v ∧ v = B (RightP p nb u ln pt cnt t) ∧ Sat w0 w [] := by
  have hm := h.L.slh.n0; have hm1 := h.L.slh.n1; have hd := h.D.slh.n0; have hd1 := h.D.slh.n1; have hs := h.is; have hk := h.ik
  have hn := hK.row.slh.n0; have hn1 := hK.row.slh.n1; have hln := hT.leaf.row.slh.n0; have hln1 := hT.leaf.row.slh.n1
  have hu := hV.row.slh.n0; have hu1 := hV.row.slh.n1
  refine zenG Tryz.func27 Tryz.ntmps27 fun w hS => ?_
  refine zsr ?_
  refine zla (xbx (cs := [_, _, _, _]) hS) ?_; rintro _ w ⟨g1, rfl, hS⟩
  replace hS := hS.n1
  refine zla (xbx (cs := [_, _, _, _, _]) hS) ?_; rintro _ w ⟨g2, rfl, hS⟩
  replace hS := hS.n2
  refine zlv xas ?_
  refine zlt <| zsq <| zsq ?_
  refine zdst [0, 1] [0, 1] 1000 mx_ hS ?_; clear hS; intro w hS
  refine zdla 0 (fun w hS => (xls 0 st_24 hS)) ?_
  refine zdc 1 (xc0 cl_28) (c_rvalid28 (p := p) w (h.below hS.below)) ?_; rintro _ w ⟨rfl, hS'⟩
  replace hS := hS.cmp hS'; clear hS'
  refine ⟨⟨fun _ => hS, hS⟩, ?_⟩
  refine zdv 2 (fun _ => xnot) ?_
  refine zdv 3 (fun _ => xmv) ?_
  refine zdb 10 ?_ ?_ <;> intro hc
  ·
   refine zdof 4 ?_
   refine zdof 5 ?_
   refine zdof 6 ?_
   refine zdof 7 ?_
   refine zdof 8 ?_
   refine zdv 9 (fun _ => xpt) ?_
   refine zdv 10 (fun _ => xmv) ?_
   refine zdof 11 ?_
   refine zdof 12 ?_
   refine zdof 14 ?_
   refine zdof 15 ?_
   refine zdof 13 ?_
   refine zdof 16 ?_
   refine zdv 17 (fun _ => xpt) ?_
   refine zdd <| ztn <| zct <| zsr ?_
   refine zlv xas ?_
   refine zlt <| zrt <| ztr <| zf1 ⟨_, rfl, ?_⟩
   exact ⟨false_B (by rintro ⟨h1, h2, h3⟩; first | omega | exact absurd h1 ‹¬ (PlanOk p u ln pt cnt ∧ ∀ j, 0 ≤ j → j < p.m → p.D j ≤ madeF u pt cnt j)› | exact absurd h1.1.1 ‹¬ p.Ok› | (rcases h3 with ⟨h4, h5, h6, h7⟩ | ⟨h4, _⟩ <;> omega)), hS.nl⟩
  refine zdla 4 (fun w hS => (xls 0 st_24 hS)) ?_
  refine zdv 5 (fun _ => (xfb 1 fd_58_1)) ?_
  refine zdla 6 (fun w hS => (xlb 1 pl_46 hS)) ?_
  refine zdc 7 (xc0 cl_33) (c_vmeets (u := u) (pv := pv) (ln := ln) (pt := pt) (cnt := cnt) (p := p) w (hV.below hS.below) (h.below hS.below)) ?_; rintro _ w ⟨rfl, hS'⟩
  replace hS := hS.cmp hS'; clear hS'
  refine ⟨⟨fun _ => hS, hS⟩, ?_⟩
  refine zdv 8 (fun _ => xnot) ?_
  refine zdv 9 (fun _ => xpf) ?_
  refine zdv 10 (fun _ => xmv) ?_
  refine zdb 17 ?_ ?_ <;> intro hc
  ·
   refine zdof 11 ?_
   refine zdof 12 ?_
   refine zdof 14 ?_
   refine zdof 15 ?_
   refine zdof 13 ?_
   refine zdof 16 ?_
   refine zdv 17 (fun _ => xpt) ?_
   refine zdd <| ztn <| zct <| zsr ?_
   refine zlv xas ?_
   refine zlt <| zrt <| ztr <| zf1 ⟨_, rfl, ?_⟩
   exact ⟨false_B (by rintro ⟨h1, h2, h3⟩; first | omega | exact absurd h1 ‹¬ (PlanOk p u ln pt cnt ∧ ∀ j, 0 ≤ j → j < p.m → p.D j ≤ madeF u pt cnt j)› | exact absurd h1.1.1 ‹¬ p.Ok› | (rcases h3 with ⟨h4, h5, h6, h7⟩ | ⟨h4, _⟩ <;> omega)), hS.nl⟩
  refine zdv 11 (fun _ => (xfb 1 fd_58_1)) ?_
  refine zdla 12 (fun w hS => (xlb 1 pl_46 hS)) ?_
  refine zdv 14 (fun _ => (xfb 0 fd_58_0)) ?_
  have hbr := psum_rng1 (show PlanOk p u ln pt cnt ∧ ∀ j, 0 ≤ j → j < p.m → p.D j ≤ madeF u pt cnt j by first | assumption | exact Classical.not_not.1 ‹_›).1
  refine zdla 15 (fun w hS => (xlb 1 pl_3 hS)) ?_
  refine zdc 13 (xc0 cl_34) (c_vbars (u := u) (pv := pv) (ln := ln) (pt := pt) (cnt := cnt) w (hV.below hS.below) (by omega) (fun k k0 k1 => by have h9 := (show PlanOk p u ln pt cnt ∧ ∀ j, 0 ≤ j → j < p.m → p.D j ≤ madeF u pt cnt j by first | assumption | exact Classical.not_not.1 ‹_›).1.2.2 k k0 k1; omega)) ?_; rintro _ w ⟨rfl, hS'⟩
  replace hS := hS.cmp hS'; clear hS'
  refine ⟨⟨fun _ => hS, hS⟩, ?_⟩
  refine zdv 16 (fun _ => xneq) ?_
  refine zdv 17 (fun _ => xpf) ?_
  refine zdd <| ztn ?_
  refine zcif ?_ ?_ <;> intro hc
  ·
   refine zsr ?_
   refine zlv xas ?_
   refine zlt <| zrt <| ztr <| zf1 ⟨_, rfl, ?_⟩
   exact ⟨false_B (by rintro ⟨h1, h2, h3⟩; first | omega | exact absurd h1 ‹¬ (PlanOk p u ln pt cnt ∧ ∀ j, 0 ≤ j → j < p.m → p.D j ≤ madeF u pt cnt j)› | exact absurd h1.1.1 ‹¬ p.Ok› | (rcases h3 with ⟨h4, h5, h6, h7⟩ | ⟨h4, _⟩ <;> omega)), hS.nl⟩
  refine zsk <| ztn <| zsq <| zsr ?_
  refine zlv (xfb 0 fd_58_0) ?_
  refine zlv (xlb 1 pl_3 hS) ?_
  refine zlv xeql ?_
  refine zlt ?_
  refine zcif ?_ ?_ <;> intro hc
  ·
   refine zsr ?_
   refine zlv (xfb 2 fd_58_2) ?_
   refine zlv (xfb 3 fd_45_1) ?_
   refine zlv (xlb 1 pl_43 hS) ?_
   refine zlv (xln sl_43 (hK).row.slh) ?_
   refine zs2 ?_
   refine zlb 33 ?_ ?_ <;> intro hc
   ·
    refine zlv (xfb 2 fd_58_2) ?_
    refine zlv (xfb 4 fd_45_2) ?_
    refine zlv (xlb 1 pl_22 hS) ?_
    refine zlv (xln sl_22 (hT).leaf.row.slh) ?_
    refine zs3 ?_
    refine zlb 40 ?_ ?_ <;> intro hc
    ·
     refine zlv (xfb 2 fd_58_2) ?_
     refine zlv (xfb 2 fd_45_0) ?_
     refine zlv (xlb 1 pl_3 hS) ?_
     refine zs3 ?_
     refine zlt <| zrt <| ztr <| zf1 ⟨_, rfl, ?_⟩
     have hme : PlanOk p u ln pt cnt ∧ ∀ j, 0 ≤ j → j < p.m → p.D j ≤ madeF u pt cnt j := by first | assumption | exact Classical.not_not.1 ‹_›
     first
     | exact ⟨B_congr ⟨fun hh => ⟨hme, by omega, .inl ⟨by omega, by first | exact hh | exact ⟨by omega, by omega, by omega⟩⟩⟩, fun hh => by rcases hh.2.2 with ⟨h4, h5⟩ | ⟨h4, h5⟩; (first | exact h5 | exact h5.1 | (obtain ⟨h6, h7, h8⟩ := h5; omega)); omega⟩, hS.nl⟩
     | exact ⟨B_congr ⟨fun hh => ⟨hme, by omega, .inr ⟨by omega, hh⟩⟩, fun hh => by rcases hh.2.2 with ⟨h4, h5⟩ | ⟨h4, h5⟩; omega; exact h5⟩, hS.nl⟩
    iterate 4 refine zlo ?_
    refine zs2 ?_
    refine zlt <| zrt <| ztr <| zf1 ⟨_, rfl, ?_⟩
    exact ⟨false_B (by rintro ⟨h1, h2, h3⟩; first | omega | exact absurd h1 ‹¬ (PlanOk p u ln pt cnt ∧ ∀ j, 0 ≤ j → j < p.m → p.D j ≤ madeF u pt cnt j)› | exact absurd h1.1.1 ‹¬ p.Ok› | (rcases h3 with ⟨h4, h5, h6, h7⟩ | ⟨h4, _⟩ <;> omega)), hS.nl⟩
   iterate 5 refine zlo ?_
   refine zs2 ?_
   iterate 4 refine zlo ?_
   refine zs2 ?_
   refine zlt <| zrt <| ztr <| zf1 ⟨_, rfl, ?_⟩
   exact ⟨false_B (by rintro ⟨h1, h2, h3⟩; first | omega | exact absurd h1 ‹¬ (PlanOk p u ln pt cnt ∧ ∀ j, 0 ≤ j → j < p.m → p.D j ≤ madeF u pt cnt j)› | exact absurd h1.1.1 ‹¬ p.Ok› | (rcases h3 with ⟨h4, h5, h6, h7⟩ | ⟨h4, _⟩ <;> omega)), hS.nl⟩
  refine zsk <| ztn <| zsr ?_
  refine zlv (xls 0 st_24 hS) ?_
  refine zlv (xfb 0 fd_58_0) ?_
  refine zlv (xlb 1 pl_3 hS) ?_
  refine zlv (xsub (r := nb - 1)) ?_
  refine zlv (xany (v := .agg #[vL, vD, .int .i64 p.stock, .int .i64 p.kerf, .int .i64 (nb - 1)]) (hr := by obtain ⟨_, _, _, _, rfl, _⟩ := h.L.slh; obtain ⟨_, _, _, _, rfl, _⟩ := h.D.slh; kernel_rfl)) ?_
  refine zlv (xfb 2 fd_58_2) ?_
  refine zlv (xlp 1 (ds := [.int .i64 t.s, t.vK, t.vL]) st_45 hS) ?_
  refine zlc (xc0 cl_23) (c_rchk (t := t) (p := p) (b := (nb - 1)) w (h.below hS.below) (KAt.below hS.below (hK)) (LvAt.below hS.below (hT))) ?_; rintro _ w ⟨rk1, k1, fk1, rfl, hrk1, hik1, hS'⟩
  replace hS : Sat w0 w [.blk g1 [vL, vD, .int .i64 p.stock, .int .i64 p.kerf], .blk g2 [.int .i64 nb, vV, .int .i64 t.s, t.vK, t.vL], .own rk1 1 3 k1 (ints fk1)] := hS.comp hS'; clear hS'
  refine zs5 ?_
  refine zlz ?_
  refine zs3 ?_
  refine zlt <| zrt <| zf1 ⟨_, rfl, ?_⟩
  have hme : PlanOk p u ln pt cnt ∧ ∀ j, 0 ≤ j → j < p.m → p.D j ≤ madeF u pt cnt j := by first | assumption | exact Classical.not_not.1 ‹_›
  first
  | exact ⟨B_congr ⟨fun hh => ⟨hme, by omega, .inl ⟨by omega, by first | exact hh | exact ⟨by omega, by omega, by omega⟩⟩⟩, fun hh => by rcases hh.2.2 with ⟨h4, h5⟩ | ⟨h4, h5⟩; (first | exact h5 | exact h5.1 | (obtain ⟨h6, h7, h8⟩ := h5; omega)); omega⟩, hS.nl⟩
  | exact ⟨B_congr ⟨fun hh => ⟨hme, by omega, .inr ⟨by omega, hh⟩⟩, fun hh => by rcases hh.2.2 with ⟨h4, h5⟩ | ⟨h4, h5⟩; omega; exact h5⟩, hS.nl⟩
end Go.Proofs.YtkichmnjjblodaaGreat
namespace Go.Proofs.YtkichmnjjblodaaGreat
open Go Go.RowKit Go.Proofs.Gw
theorem cl_19 : calledT Tryz.prog 19 = true := by kernel_rfl
theorem cl_20 : calledT Tryz.prog 20 = true := by kernel_rfl
theorem cl_24 : calledT Tryz.prog 24 = true := by kernel_rfl
theorem cl_25 : calledT Tryz.prog 25 = true := by kernel_rfl
theorem cl_26 : calledT Tryz.prog 26 = true := by kernel_rfl
theorem cl_27 : calledT Tryz.prog 27 = true := by kernel_rfl
theorem el_58 : elemT Tryz.prog 58 = some (.agg #[.int .i64 0, .slice none 0 0, .int .i64 0, .slice none 0 0, .slice none 0 0], 5, 88) := by kernel_rfl
theorem el_63 : elemT Tryz.prog 63 = some (.agg #[.int .i64 0, .slice none 0 0, .int .i64 0, .slice none 0 0, .slice none 0 0], 5, 88) := by kernel_rfl
theorem st_58 : structT Tryz.prog 58 = some 5 := by kernel_rfl
theorem st_63 : structT Tryz.prog 63 = some 5 := by kernel_rfl
theorem c_short28 {vV : Value} {u : Int} {pv : Int → Value} {ln : Int → Int} {pt : Int → Int → Int} {cnt : Int → Int} (w0 : World) (hV : VAt w0 vV u pv ln pt cnt) :
    Calls Tryz.prog 20 [vV].toArray w0 fun e w => ∃ v, e = .returned v ∧ v = B (ShortP u ln cnt) ∧ Sat w0 w [] := by
  have hu := hV.row.slh.n0; have hu1 := hV.row.slh.n1
  refine zenG Tryz.func20 Tryz.ntmps20 fun w hS => ?_
  refine zsr ?_
  refine zlv xas ?_
  refine zlt <| zsq <| zsr ?_
  refine zlv xas ?_
  refine zlt <| zbk <| zlp (fun mm M w => ∃ (i : Int), mm = ((u - i).toNat) ∧ (0 ≤ i) ∧ (i ≤ u) ∧ (∀ k, 0 ≤ k → k < i → ln k ≤ 25 ∧ cnt k ≤ 40) ∧ M = [(0, vV), (3, .int .i64 i)] ∧ Sat w0 w []) ⟨0, rfl, (by omega), (by omega), ?_, rfl, hS⟩ ?_
  ·
   intro k h0 h1; omega
  clear hS w
  rintro mm M w ⟨i, rfl, h0, h1, hall, rfl, hS⟩
  refine zsq <| zsr ?_
  refine zs2 ?_
  refine zlv (xln sl_46 hV.row.slh) ?_
  refine zlv xlss ?_
  refine zlt ?_
  refine zcif ?_ ?_ <;> intro hc
  ·
   refine zsk <| ztn <| zsq <| zbk <| zsr ?_
   refine zs2 ?_
   refine zlv (xix (kk := 2 * i) sl_46 hV.row.slh) ?_
   refine zlv (xfc (kk := 2 * i) fd_103_0 hV.row.slh) ?_
   refine zlv (xlr (u := (pv i)) pl_22 (hV.row.below hS.below) (e := (ucells0 pv cnt (by omega)))) ?_
   refine zlv (xln sl_22 (hV.p i (by omega) (by omega)).slh) ?_
   refine zs2 ?_
   refine zlb 17 ?_ ?_ <;> intro hc
   ·
    iterate 6 refine zlo ?_
    refine zlv xpt ?_
    refine zlt <| zct <| zsr ?_
    refine zlv xas ?_
    refine zlt <| zrt <| zbr <| ztr <| ztr <| zbr <| ztr <| zf1 ⟨_, rfl, ?_⟩
    exact ⟨false_B (by intro hk; have := hk.all i (by omega) (by omega); omega), hS⟩
   refine zs2 ?_
   refine zlv (xix (kk := 2 * i) sl_46 hV.row.slh) ?_
   refine zlv (xfc (kk := 2 * i + 1) fd_103_1 hV.row.slh) ?_
   refine zlv (xlr (u := .int .i64 (cnt i)) pl_3 (hV.row.below hS.below) (e := (ucells1 pv cnt (by omega)))) ?_
   refine zs2 ?_
   refine zlt ?_
   refine zcif ?_ ?_ <;> intro hc
   ·
    refine zsr ?_
    refine zlv xas ?_
    refine zlt <| zrt <| zbr <| ztr <| ztr <| zbr <| ztr <| zf1 ⟨_, rfl, ?_⟩
    exact ⟨false_B (by intro hk; have := hk.all i (by omega) (by omega); omega), hS⟩
   refine zsk <| zbn <| ztn <| zrg ?_
   refine zlv xmv ?_
   refine zlv (xadd (r := i + 1)) ?_
   refine zlv xas ?_
   refine zln <| zlq ⟨i + 1, rfl, (by omega), (by omega), ?_, rfl, hS⟩
   ·
    intro k h0' h1'; rcases Int.lt_or_eq_of_le (show k ≤ i by omega) with hk | hk; exact hall k h0' hk; rw [hk]; omega
  refine zxt <| ztx <| ztx <| zbh <| ztn <| zsr ?_
  refine zlv xmv ?_
  refine zlv (xln sl_46 hV.row.slh) ?_
  refine zs2 ?_
  refine zlt <| zrt <| zf1 ⟨_, rfl, ?_⟩
  exact ⟨B_congr (by exact ⟨fun h5 => ⟨fun k k0 k1 => hall k k0 (by omega), h5⟩, fun h5 => h5.few⟩), hS⟩
theorem law_check {vL vD : Value} {p : Prob} {b : Int} {t : Tr} {vV : Value} {u : Int} {pv : Int → Value} {ln : Int → Int} {pt : Int → Int → Int} {cnt : Int → Int} (w0 : World) (h : PAt w0 vL vD p) (hK : KAt w0 t) (hT : LvAt w0 t) (hV : VAt w0 vV u pv ln pt cnt) :
    Calls Tryz.prog 4 [.agg #[vL, vD, .int .i64 p.stock, .int .i64 p.kerf, .int .i64 b], .agg #[.int .i64 t.s, t.vK, t.vL], vV].toArray w0 fun e w => ∃ v, e = .returned v ∧ v = .bool true ∧ Sat w0 w [] := by
  have hm := h.L.slh.n0; have hm1 := h.L.slh.n1; have hd := h.D.slh.n0; have hd1 := h.D.slh.n1; have hs := h.is; have hk := h.ik
  have hn := hK.row.slh.n0; have hn1 := hK.row.slh.n1; have hln := hT.leaf.row.slh.n0; have hln1 := hT.leaf.row.slh.n1
  have hu := hV.row.slh.n0; have hu1 := hV.row.slh.n1
  refine zenG Tryz.func4 Tryz.ntmps4 fun w hS => ?_
  refine zsr ?_
  refine zla (xbx (cs := [_, _, _, _, _]) hS) ?_; rintro _ w ⟨g1, rfl, hS⟩
  replace hS := hS.n1
  refine zla (xbx (cs := [_, _, _]) hS) ?_; rintro _ w ⟨g2, rfl, hS⟩
  replace hS := hS.n2
  refine zlv xas ?_
  refine zlt <| zsq <| zsr ?_
  refine zlc (xc0 cl_11) (c_awk w) ?_; rintro _ w ⟨rfl, hS'⟩
  replace hS := hS.cmp hS'; clear hS'
  refine zs2 ?_
  refine zlv (xfb 0 fd_26_0) ?_
  refine zlv (xlp 0 (ds := [vL, vD, .int .i64 p.stock, .int .i64 p.kerf]) st_24 hS) ?_
  refine zlc (xc0 cl_12) (c_few28 (p := p) w (h.below hS.below)) ?_; rintro _ w ⟨rfl, hS'⟩
  replace hS := hS.cmp hS'; clear hS'
  refine zs3 ?_
  refine zlb 21 ?_ ?_ <;> intro hc
  ·
   iterate 3 refine zlo ?_
   refine zs2 ?_
   iterate 3 refine zlo ?_
   refine zlv xpt ?_
   refine zlt <| zct <| zsr ?_
   refine zlc (xc0 cl_11) (c_awk w) ?_; rintro _ w ⟨rfl, hS'⟩
   replace hS := hS.cmp hS'; clear hS'
   refine zlv xas ?_
   refine zlt <| zrt <| ztr <| zf1 ⟨_, rfl, ?_⟩
   exact ⟨rfl, hS.nl⟩
  refine zlv (xls 1 st_45 hS) ?_
  refine zlc (xc0 cl_19) (c_few35 (t := t) w (KAt.below hS.below (hK)) (LvAt.below hS.below (hT))) ?_; rintro _ w ⟨rfl, hS'⟩
  replace hS := hS.cmp hS'; clear hS'
  refine zs3 ?_
  refine zlb 26 ?_ ?_ <;> intro hc
  ·
   iterate 3 refine zlo ?_
   refine zlv xpt ?_
   refine zlt <| zct <| zsr ?_
   refine zlc (xc0 cl_11) (c_awk w) ?_; rintro _ w ⟨rfl, hS'⟩
   replace hS := hS.cmp hS'; clear hS'
   refine zlv xas ?_
   refine zlt <| zrt <| ztr <| zf1 ⟨_, rfl, ?_⟩
   exact ⟨rfl, hS.nl⟩
  refine zlv xmv ?_
  refine zlc (xc0 cl_20) (c_short28 (u := u) (pv := pv) (ln := ln) (pt := pt) (cnt := cnt) w (hV.below hS.below)) ?_; rintro _ w ⟨rfl, hS'⟩
  replace hS := hS.cmp hS'; clear hS'
  refine zs2 ?_
  refine zlt ?_
  refine zcif ?_ ?_ <;> intro hc
  ·
   refine zsr ?_
   refine zlc (xc0 cl_11) (c_awk w) ?_; rintro _ w ⟨rfl, hS'⟩
   replace hS := hS.cmp hS'; clear hS'
   refine zlv xas ?_
   refine zlt <| zrt <| ztr <| zf1 ⟨_, rfl, ?_⟩
   exact ⟨rfl, hS.nl⟩
  refine zsk <| ztn <| zsq ?_
  refine zdst [0, 1] [0, 1] 1000 mx_ hS ?_; clear hS; intro w hS
  refine zdla 0 (fun w hS => (xls 0 st_26 hS)) ?_
  have hsf := (show ShortP u ln cnt by first | assumption | exact Classical.not_not.1 ‹_›).few
  refine zdla 2 (fun w hS => (xls 1 st_45 hS)) ?_
  refine zdc 1 (xc0 cl_14) (c_own36 (p := p) (b := b) w (h.below hS.below)) ?_; rintro _ w ⟨rfl, hS'⟩
  replace hS := hS.cmp hS'; clear hS'
  refine ⟨⟨fun _ => hS, hS⟩, ?_⟩
  refine zdc 3 (xc0 cl_22) (c_own35 t w (KAt.below hS.below (hK)) (LvAt.below hS.below (hT))) ?_; rintro _ w ⟨u1, rfl, hsimu1, hku1, hlu1, hS'⟩
  replace hS : Sat w0 w [.blk g1 [vL, vD, .int .i64 p.stock, .int .i64 p.kerf, .int .i64 b], .blk g2 [.int .i64 t.s, t.vK, t.vL], .sem (u1.frame 54)] := hS.comp hS'; clear hS'
  refine ⟨⟨fun _ => hS.pk [0, 1], hS.pk [0, 1]⟩, ?_⟩
  refine zdc 4 (xc0 cl_21) (c_chk (t := u1) (p := p) (b := b) w (h.below hS.below) (Tr.frame_kat (E := 54) _ hsimu1 (hK) (hS.holds (.sem (Tr.frame 54 u1)) (by repeat first | exact List.mem_cons_self .. | apply List.mem_cons_of_mem))) (Sim.vat _ hsimu1 (LvAt.below hS.below (hT)))) ?_; rintro _ w ⟨rk1, k1, fk1, rfl, hrk1, hik1, hS'⟩
  replace hS : Sat w0 w [.blk g1 [vL, vD, .int .i64 p.stock, .int .i64 p.kerf, .int .i64 b], .blk g2 [.int .i64 t.s, t.vK, t.vL], .sem (u1.frame 54), .sem (Frame.dq 3 rk1 k1 fk1)] := hS.comp hS'; clear hS'
  refine ⟨⟨fun _ => hS.pk [0, 1], hS.pk [0, 1]⟩, ?_⟩
  refine zdv 5 (fun _ => xmv) ?_
  refine zdv 6 (fun _ => xex) ?_
  refine zdv 7 (fun _ => xex) ?_
  rw [sim_chkL hsimu1] at hik1
  refine zdas 39 (u := .int .i64 (chkE t p b)) (congrArg (Value.int .i64) (sim_chkE hsimu1 p b)) ?_
  refine zdv 8 (fun _ => xas) ?_
  refine zdv 9 (fun _ => xas) ?_
  refine zdd <| ztn <| zsr ?_
  refine zlv (xls 0 st_26 hS) ?_
  refine zlv (xls 1 st_45 hS) ?_
  refine zlc (xc0 cl_23) (c_rchk (t := t) (p := p) (b := b) w (h.below hS.below) (KAt.below hS.below (hK)) (LvAt.below hS.below (hT))) ?_; rintro _ w ⟨rk2, k2, fk2, rfl, hrk2, hik2, hS'⟩
  replace hS : Sat w0 w [.blk g1 [vL, vD, .int .i64 p.stock, .int .i64 p.kerf, .int .i64 b], .blk g2 [.int .i64 t.s, t.vK, t.vL], .sem (u1.frame 54), .sem (Frame.dq 3 rk1 k1 fk1), .own rk2 1 3 k2 (ints fk2)] := hS.comp hS'; clear hS'
  refine zs5 ?_
  refine zlz ?_
  refine zlv (xfb 4 fd_26_1) ?_
  refine zlv (xlb 0 pl_3 hS) ?_
  refine zlv xaddw ?_
  refine zlv xmv ?_
  refine zlv (xls 1 st_45 hS) ?_
  refine zlv (xany (v := .agg #[.int .i64 (IntKind.i64.wrap (b + 1)), vV, .int .i64 t.s, t.vK, t.vL]) (hr := by obtain ⟨_, _, _, _, rfl, _⟩ := hV.row.slh; have hz := (hK).row.slh; revert hz; generalize t.vK = z; rintro ⟨_, _, _, _, rfl, _⟩; show _ = _; have hz := (hT).leaf.row.slh; revert hz; generalize t.vL = z; rintro ⟨_, _, _, _, rfl, _⟩; show _ = _; kernel_rfl)) ?_
  refine zla (xal (cs := [_, _, _, _, _]) el_58 hS) ?_; rintro _ w ⟨g3, rfl, hS⟩
  replace hS := hS.n6
  refine zle (xsw 5 st_58 hS (hd := (ones_cons rfl (ones_cons hV.row.slh.one (ones_cons rfl (ones_cons (hK).row.slh.one (ones_cons (hT).leaf.row.slh.one ones_nil))))))) ?_; clear hS; rintro w hS
  replace hS := hS.n6
  refine zlt <| zsq ?_
  refine zdst [0, 1, 2, 3, 4, 5] [0, 1, 2, 3, 4, 5] 8 mx_ hS ?_; clear hS; intro w hS
  refine zdv 0 (fun _ => (xfb 0 fd_58_0)) ?_
  refine zdla 1 (fun w hS => (xlb 5 pl_3 hS)) ?_
  refine zdv 2 (fun _ => xmv) ?_
  refine zdla 4 (fun w hS => (xls 1 st_45 hS)) ?_
  refine zdfk (r := [3, 7]) ((zdn1 ?_ (zdn1 ?_ zdn0)))
  ·
   refine zkc (xc0 cl_24) (c_ownp (n := u) (pv := pv) (ln := ln) (pt := pt) (cnt := cnt) w (hV.below hS.below) (by omega)) ?_; rintro vtth1 w ⟨_, rfl, hvtth1, hS'⟩
   replace hS : Sat w0 w [.blk g1 [vL, vD, .int .i64 p.stock, .int .i64 p.kerf, .int .i64 b], .blk g2 [.int .i64 t.s, t.vK, t.vL], .sem (u1.frame 54), .sem (Frame.dq 3 rk1 k1 fk1), .own rk2 1 3 k2 (ints fk2), .blk g3 [.int .i64 (IntKind.i64.wrap (b + 1)), vV, .int .i64 t.s, t.vK, t.vL], .own vtth1 2 107 u (ucells pv cnt)] := hS.comp hS'; clear hS'
   refine ⟨⟨fun _ => hS.pk [0, 1, 2, 3, 4, 5], hS.pk [0, 1, 2, 3, 4, 5]⟩, ?_⟩
   refine zdfk (r := [5, 7]) ((zdn1 ?_ (zdn1 ?_ zdn0)))
   ·
    refine zkc (xc0 cl_22) (c_own35 t w (KAt.below hS.below (hK)) (LvAt.below hS.below (hT))) ?_; rintro _ w ⟨u2, rfl, hsimu2, hku2, hlu2, hS'⟩
    replace hS : Sat w0 w [.blk g1 [vL, vD, .int .i64 p.stock, .int .i64 p.kerf, .int .i64 b], .blk g2 [.int .i64 t.s, t.vK, t.vL], .sem (u1.frame 54), .sem (Frame.dq 3 rk1 k1 fk1), .own rk2 1 3 k2 (ints fk2), .blk g3 [.int .i64 (IntKind.i64.wrap (b + 1)), vV, .int .i64 t.s, t.vK, t.vL], .own vtth1 2 107 u (ucells pv cnt), .sem (u2.frame 54)] := hS.comp hS'; clear hS'
    refine ⟨⟨fun _ => hS.pk [0, 1, 2, 3, 4, 5], hS.pk [0, 1, 2, 3, 4, 5]⟩, ?_⟩
    refine zdv 6 (fun _ => (xany (v := .agg #[.int .i64 (IntKind.i64.wrap (b + 1)), vtth1, .int .i64 u2.s, u2.vK, u2.vL]) (hr := by obtain ⟨_, _, _, _, rfl, _⟩ := hvtth1; have hz := hku2; revert hz; generalize u2.vK = z; rintro ⟨_, _, _, _, rfl, _⟩; show _ = _; have hz := hlu2; revert hz; generalize u2.vL = z; rintro ⟨_, _, _, _, rfl, _⟩; show _ = _; kernel_rfl))) ?_
    refine zda 7 (xal (cs := [_, _, _, _, _]) el_63 hS) ?_; rintro _ w ⟨g4, rfl, hS⟩
    replace hS := hS.n9
    refine ⟨⟨fun _ => hS.pk [0, 1, 2, 3, 4, 5], hS.pk [0, 1, 2, 3, 4, 5]⟩, ?_⟩
    refine zde 8 (xsw 8 st_63 hS (hd := (ones_cons rfl (ones_cons hvtth1.one (ones_cons rfl (ones_cons hku2.one (ones_cons hlu2.one ones_nil))))))) ?_; clear hS; rintro w hS
    replace hS := hS.n9
    refine ⟨⟨fun h => absurd h (by decide), hS.pk [0, 1, 2, 3, 4, 5]⟩, ?_⟩
    refine zdd <| ztn <| zsq ?_
    refine zdst [0, 1, 2, 3, 4, 5, 6, 7, 8] [0, 1, 2, 3, 4, 5, 6, 7, 8] 1000 mx_ hS ?_; clear hS; intro w hS
    refine zdv 0 (fun _ => xmv) ?_
    refine zdv 1 (fun _ => xmv) ?_
    refine zdc 2 (xc0 cl_25) (c_equal35 (n := k1) (m := k2) (f := fk1) (g := fk2) w (Frame.dq.row (hS.dqOf 3 rfl)) (hS.rowN 4 rfl)) ?_; rintro _ w ⟨rfl, hS'⟩
    replace hS := hS.cmp hS'; clear hS'
    refine ⟨⟨fun _ => hS, hS⟩, ?_⟩
    refine zdv 3 (fun _ => xmv) ?_
    refine zdas 62 (u := .bool true) (B_true (hik1.same hik2)) ?_
    refine zdv 4 (fun _ => xmv) ?_
    refine zdv 5 (fun _ => xmv) ?_
    refine zdv 6 (fun _ => (xkt xeql)) ?_
    refine zdv 7 (fun _ => xpt) ?_
    refine zdv 8 (fun _ => xmv) ?_
    refine zdv 9 (fun _ => (xfb 0 fd_26_0)) ?_
    refine zdla 10 (fun w hS => (xlp 0 (ds := [vL, vD, .int .i64 p.stock, .int .i64 p.kerf]) st_24 hS)) ?_
    refine zdla 11 (fun w hS => (xls 8 st_63 hS)) ?_
    refine zdv 13 (fun _ => (xfb 0 fd_26_0)) ?_
    refine zdla 14 (fun w hS => (xlp 0 (ds := [vL, vD, .int .i64 p.stock, .int .i64 p.kerf]) st_24 hS)) ?_
    refine zdla 15 (fun w hS => (xls 5 st_58 hS)) ?_
    refine zdc 12 (xc0 cl_26) (c_right (u := u) (pv := pv) (ln := ln) (pt := pt) (cnt := cnt) (p := p) (nb := (IntKind.i64.wrap (b + 1))) (t := u2) w (⟨(hS.rowN 6 rfl), fun k k0 k1 => (hV.p k k0 k1).below hS.below, hV.room⟩ : VAt _ vtth1 u pv ln pt cnt) (h.below hS.below) (Tr.frame_kat (E := 54) _ hsimu2 (hK) (hS.holds (.sem (Tr.frame 54 u2)) (by repeat first | exact List.mem_cons_self .. | apply List.mem_cons_of_mem))) (Sim.vat _ hsimu2 (LvAt.below hS.below (hT))) (by omega)) ?_; rintro _ w ⟨rfl, hS'⟩
    replace hS := hS.cmp hS'; clear hS'
    refine ⟨⟨fun _ => hS, hS⟩, ?_⟩
    refine zdc 16 (xc0 cl_27) (c_rright (u := u) (pv := pv) (ln := ln) (pt := pt) (cnt := cnt) (p := p) (nb := (IntKind.i64.wrap (b + 1))) (t := t) w (hV.below hS.below) (h.below hS.below) (KAt.below hS.below (hK)) (LvAt.below hS.below (hT)) (by omega)) ?_; rintro _ w ⟨rfl, hS'⟩
    replace hS := hS.cmp hS'; clear hS'
    refine ⟨⟨fun _ => hS, hS⟩, ?_⟩
    refine zdb 71 ?_ ?_ <;> intro hc
    ·
     refine zdb 75 ?_ ?_ <;> intro hc
     ·
      refine zdv 17 (fun _ => (xany (v := .bool true))) ?_
      refine zdv 18 (fun _ => xpt) ?_
      refine zdv 19 (fun _ => xas) ?_
      refine zdd <| ztn <| zrt <| zf1 ⟨_, rfl, ?_⟩
      exact ⟨rfl, hS.nl⟩
     refine zdv 17 (fun _ => (xany (v := .bool false))) ?_
     refine zdv 18 (fun _ => xpt) ?_
     refine zdv 19 (fun _ => xas) ?_
     refine zdd <| ztn <| zrt <| zf1 ⟨_, rfl, ?_⟩
     exfalso; first | omega | contradiction | exact absurd ((sim_right hsimu2).1 ‹RightP p (IntKind.i64.wrap (b + 1)) u ln pt cnt u2›) ‹¬ (RightP p (IntKind.i64.wrap (b + 1)) u ln pt cnt t)› | exact absurd ((sim_right hsimu2).2 ‹RightP p (IntKind.i64.wrap (b + 1)) u ln pt cnt t›) ‹¬ (RightP p (IntKind.i64.wrap (b + 1)) u ln pt cnt u2)›
    refine zdb 75 ?_ ?_ <;> intro hc
    ·
     refine zdv 17 (fun _ => (xany (v := .bool false))) ?_
     refine zdv 18 (fun _ => xpt) ?_
     refine zdv 19 (fun _ => xas) ?_
     refine zdd <| ztn <| zrt <| zf1 ⟨_, rfl, ?_⟩
     exfalso; first | omega | contradiction | exact absurd ((sim_right hsimu2).1 ‹RightP p (IntKind.i64.wrap (b + 1)) u ln pt cnt u2›) ‹¬ (RightP p (IntKind.i64.wrap (b + 1)) u ln pt cnt t)› | exact absurd ((sim_right hsimu2).2 ‹RightP p (IntKind.i64.wrap (b + 1)) u ln pt cnt t›) ‹¬ (RightP p (IntKind.i64.wrap (b + 1)) u ln pt cnt u2)›
    refine zdv 17 (fun _ => (xany (v := .bool true))) ?_
    refine zdv 18 (fun _ => xpt) ?_
    refine zdv 19 (fun _ => xas) ?_
    refine zdd <| ztn <| zrt <| zf1 ⟨_, rfl, ?_⟩
    exact ⟨rfl, hS.nl⟩
   refine zka (xal (cs := [_, _, _, _, _]) el_63 hS) ?_; rintro _ w ⟨g4, rfl, hS⟩
   replace hS := hS.n8
   refine ⟨⟨fun _ => hS.pk [0, 1, 2, 3, 4, 5], hS.pk [0, 1, 2, 3, 4, 5]⟩, ?_⟩
   refine zdc 5 (xc0 cl_22) (c_own35 t w (KAt.below hS.below (hK)) (LvAt.below hS.below (hT))) ?_; rintro _ w ⟨u2, rfl, hsimu2, hku2, hlu2, hS'⟩
   replace hS : Sat w0 w [.blk g1 [vL, vD, .int .i64 p.stock, .int .i64 p.kerf, .int .i64 b], .blk g2 [.int .i64 t.s, t.vK, t.vL], .sem (u1.frame 54), .sem (Frame.dq 3 rk1 k1 fk1), .own rk2 1 3 k2 (ints fk2), .blk g3 [.int .i64 (IntKind.i64.wrap (b + 1)), vV, .int .i64 t.s, t.vK, t.vL], .own vtth1 2 107 u (ucells pv cnt), .blk g4 [.int .i64 0, .slice none 0 0, .int .i64 0, .slice none 0 0, .slice none 0 0], .sem (u2.frame 54)] := hS.comp hS'; clear hS'
   refine ⟨⟨fun _ => hS.pk [0, 1, 2, 3, 4, 5], hS.pk [0, 1, 2, 3, 4, 5]⟩, ?_⟩
   refine zdv 6 (fun _ => (xany (v := .agg #[.int .i64 (IntKind.i64.wrap (b + 1)), vtth1, .int .i64 u2.s, u2.vK, u2.vL]) (hr := by obtain ⟨_, _, _, _, rfl, _⟩ := hvtth1; have hz := hku2; revert hz; generalize u2.vK = z; rintro ⟨_, _, _, _, rfl, _⟩; show _ = _; have hz := hlu2; revert hz; generalize u2.vL = z; rintro ⟨_, _, _, _, rfl, _⟩; show _ = _; kernel_rfl))) ?_
   refine zde 8 (xsw 7 st_63 hS (hd := (ones_cons rfl (ones_cons hvtth1.one (ones_cons rfl (ones_cons hku2.one (ones_cons hlu2.one ones_nil))))))) ?_; clear hS; rintro w hS
   replace hS := hS.n9
   refine ⟨⟨fun h => absurd h (by decide), hS.pk [0, 1, 2, 3, 4, 5]⟩, ?_⟩
   refine zdd <| ztn <| zsq ?_
   refine zdst [0, 1, 2, 3, 4, 5, 6, 7, 8] [0, 1, 2, 3, 4, 5, 6, 7, 8] 1000 mx_ hS ?_; clear hS; intro w hS
   refine zdv 0 (fun _ => xmv) ?_
   refine zdv 1 (fun _ => xmv) ?_
   refine zdc 2 (xc0 cl_25) (c_equal35 (n := k1) (m := k2) (f := fk1) (g := fk2) w (Frame.dq.row (hS.dqOf 3 rfl)) (hS.rowN 4 rfl)) ?_; rintro _ w ⟨rfl, hS'⟩
   replace hS := hS.cmp hS'; clear hS'
   refine ⟨⟨fun _ => hS, hS⟩, ?_⟩
   refine zdv 3 (fun _ => xmv) ?_
   refine zdas 62 (u := .bool true) (B_true (hik1.same hik2)) ?_
   refine zdv 4 (fun _ => xmv) ?_
   refine zdv 5 (fun _ => xmv) ?_
   refine zdv 6 (fun _ => (xkt xeql)) ?_
   refine zdv 7 (fun _ => xpt) ?_
   refine zdv 8 (fun _ => xmv) ?_
   refine zdv 9 (fun _ => (xfb 0 fd_26_0)) ?_
   refine zdla 10 (fun w hS => (xlp 0 (ds := [vL, vD, .int .i64 p.stock, .int .i64 p.kerf]) st_24 hS)) ?_
   refine zdla 11 (fun w hS => (xls 7 st_63 hS)) ?_
   refine zdv 13 (fun _ => (xfb 0 fd_26_0)) ?_
   refine zdla 14 (fun w hS => (xlp 0 (ds := [vL, vD, .int .i64 p.stock, .int .i64 p.kerf]) st_24 hS)) ?_
   refine zdla 15 (fun w hS => (xls 5 st_58 hS)) ?_
   refine zdc 12 (xc0 cl_26) (c_right (u := u) (pv := pv) (ln := ln) (pt := pt) (cnt := cnt) (p := p) (nb := (IntKind.i64.wrap (b + 1))) (t := u2) w (⟨(hS.rowN 6 rfl), fun k k0 k1 => (hV.p k k0 k1).below hS.below, hV.room⟩ : VAt _ vtth1 u pv ln pt cnt) (h.below hS.below) (Tr.frame_kat (E := 54) _ hsimu2 (hK) (hS.holds (.sem (Tr.frame 54 u2)) (by repeat first | exact List.mem_cons_self .. | apply List.mem_cons_of_mem))) (Sim.vat _ hsimu2 (LvAt.below hS.below (hT))) (by omega)) ?_; rintro _ w ⟨rfl, hS'⟩
   replace hS := hS.cmp hS'; clear hS'
   refine ⟨⟨fun _ => hS, hS⟩, ?_⟩
   refine zdc 16 (xc0 cl_27) (c_rright (u := u) (pv := pv) (ln := ln) (pt := pt) (cnt := cnt) (p := p) (nb := (IntKind.i64.wrap (b + 1))) (t := t) w (hV.below hS.below) (h.below hS.below) (KAt.below hS.below (hK)) (LvAt.below hS.below (hT)) (by omega)) ?_; rintro _ w ⟨rfl, hS'⟩
   replace hS := hS.cmp hS'; clear hS'
   refine ⟨⟨fun _ => hS, hS⟩, ?_⟩
   refine zdb 71 ?_ ?_ <;> intro hc
   ·
    refine zdb 75 ?_ ?_ <;> intro hc
    ·
     refine zdv 17 (fun _ => (xany (v := .bool true))) ?_
     refine zdv 18 (fun _ => xpt) ?_
     refine zdv 19 (fun _ => xas) ?_
     refine zdd <| ztn <| zrt <| zf1 ⟨_, rfl, ?_⟩
     exact ⟨rfl, hS.nl⟩
    refine zdv 17 (fun _ => (xany (v := .bool false))) ?_
    refine zdv 18 (fun _ => xpt) ?_
    refine zdv 19 (fun _ => xas) ?_
    refine zdd <| ztn <| zrt <| zf1 ⟨_, rfl, ?_⟩
    exfalso; first | omega | contradiction | exact absurd ((sim_right hsimu2).1 ‹RightP p (IntKind.i64.wrap (b + 1)) u ln pt cnt u2›) ‹¬ (RightP p (IntKind.i64.wrap (b + 1)) u ln pt cnt t)› | exact absurd ((sim_right hsimu2).2 ‹RightP p (IntKind.i64.wrap (b + 1)) u ln pt cnt t›) ‹¬ (RightP p (IntKind.i64.wrap (b + 1)) u ln pt cnt u2)›
   refine zdb 75 ?_ ?_ <;> intro hc
   ·
    refine zdv 17 (fun _ => (xany (v := .bool false))) ?_
    refine zdv 18 (fun _ => xpt) ?_
    refine zdv 19 (fun _ => xas) ?_
    refine zdd <| ztn <| zrt <| zf1 ⟨_, rfl, ?_⟩
    exfalso; first | omega | contradiction | exact absurd ((sim_right hsimu2).1 ‹RightP p (IntKind.i64.wrap (b + 1)) u ln pt cnt u2›) ‹¬ (RightP p (IntKind.i64.wrap (b + 1)) u ln pt cnt t)› | exact absurd ((sim_right hsimu2).2 ‹RightP p (IntKind.i64.wrap (b + 1)) u ln pt cnt t›) ‹¬ (RightP p (IntKind.i64.wrap (b + 1)) u ln pt cnt u2)›
   refine zdv 17 (fun _ => (xany (v := .bool true))) ?_
   refine zdv 18 (fun _ => xpt) ?_
   refine zdv 19 (fun _ => xas) ?_
   refine zdd <| ztn <| zrt <| zf1 ⟨_, rfl, ?_⟩
   exact ⟨rfl, hS.nl⟩
  refine zka (xal (cs := [_, _, _, _, _]) el_63 hS) ?_; rintro _ w ⟨g4, rfl, hS⟩
  replace hS := hS.n7
  refine ⟨⟨fun _ => hS.pk [0, 1, 2, 3, 4, 5], hS.pk [0, 1, 2, 3, 4, 5]⟩, ?_⟩
  refine zdc 3 (xc0 cl_24) (c_ownp (n := u) (pv := pv) (ln := ln) (pt := pt) (cnt := cnt) w (hV.below hS.below) (by omega)) ?_; rintro vtth1 w ⟨_, rfl, hvtth1, hS'⟩
  replace hS : Sat w0 w [.blk g1 [vL, vD, .int .i64 p.stock, .int .i64 p.kerf, .int .i64 b], .blk g2 [.int .i64 t.s, t.vK, t.vL], .sem (u1.frame 54), .sem (Frame.dq 3 rk1 k1 fk1), .own rk2 1 3 k2 (ints fk2), .blk g3 [.int .i64 (IntKind.i64.wrap (b + 1)), vV, .int .i64 t.s, t.vK, t.vL], .blk g4 [.int .i64 0, .slice none 0 0, .int .i64 0, .slice none 0 0, .slice none 0 0], .own vtth1 2 107 u (ucells pv cnt)] := hS.comp hS'; clear hS'
  refine ⟨⟨fun _ => hS.pk [0, 1, 2, 3, 4, 5], hS.pk [0, 1, 2, 3, 4, 5]⟩, ?_⟩
  refine zdc 5 (xc0 cl_22) (c_own35 t w (KAt.below hS.below (hK)) (LvAt.below hS.below (hT))) ?_; rintro _ w ⟨u2, rfl, hsimu2, hku2, hlu2, hS'⟩
  replace hS : Sat w0 w [.blk g1 [vL, vD, .int .i64 p.stock, .int .i64 p.kerf, .int .i64 b], .blk g2 [.int .i64 t.s, t.vK, t.vL], .sem (u1.frame 54), .sem (Frame.dq 3 rk1 k1 fk1), .own rk2 1 3 k2 (ints fk2), .blk g3 [.int .i64 (IntKind.i64.wrap (b + 1)), vV, .int .i64 t.s, t.vK, t.vL], .blk g4 [.int .i64 0, .slice none 0 0, .int .i64 0, .slice none 0 0, .slice none 0 0], .own vtth1 2 107 u (ucells pv cnt), .sem (u2.frame 54)] := hS.comp hS'; clear hS'
  refine ⟨⟨fun _ => hS.pk [0, 1, 2, 3, 4, 5], hS.pk [0, 1, 2, 3, 4, 5]⟩, ?_⟩
  refine zdv 6 (fun _ => (xany (v := .agg #[.int .i64 (IntKind.i64.wrap (b + 1)), vtth1, .int .i64 u2.s, u2.vK, u2.vL]) (hr := by obtain ⟨_, _, _, _, rfl, _⟩ := hvtth1; have hz := hku2; revert hz; generalize u2.vK = z; rintro ⟨_, _, _, _, rfl, _⟩; show _ = _; have hz := hlu2; revert hz; generalize u2.vL = z; rintro ⟨_, _, _, _, rfl, _⟩; show _ = _; kernel_rfl))) ?_
  refine zde 8 (xsw 6 st_63 hS (hd := (ones_cons rfl (ones_cons hvtth1.one (ones_cons rfl (ones_cons hku2.one (ones_cons hlu2.one ones_nil))))))) ?_; clear hS; rintro w hS
  replace hS := hS.n9
  refine ⟨⟨fun h => absurd h (by decide), hS.pk [0, 1, 2, 3, 4, 5]⟩, ?_⟩
  refine zdd <| ztn <| zsq ?_
  refine zdst [0, 1, 2, 3, 4, 5, 6, 7, 8] [0, 1, 2, 3, 4, 5, 6, 7, 8] 1000 mx_ hS ?_; clear hS; intro w hS
  refine zdv 0 (fun _ => xmv) ?_
  refine zdv 1 (fun _ => xmv) ?_
  refine zdc 2 (xc0 cl_25) (c_equal35 (n := k1) (m := k2) (f := fk1) (g := fk2) w (Frame.dq.row (hS.dqOf 3 rfl)) (hS.rowN 4 rfl)) ?_; rintro _ w ⟨rfl, hS'⟩
  replace hS := hS.cmp hS'; clear hS'
  refine ⟨⟨fun _ => hS, hS⟩, ?_⟩
  refine zdv 3 (fun _ => xmv) ?_
  refine zdas 62 (u := .bool true) (B_true (hik1.same hik2)) ?_
  refine zdv 4 (fun _ => xmv) ?_
  refine zdv 5 (fun _ => xmv) ?_
  refine zdv 6 (fun _ => (xkt xeql)) ?_
  refine zdv 7 (fun _ => xpt) ?_
  refine zdv 8 (fun _ => xmv) ?_
  refine zdv 9 (fun _ => (xfb 0 fd_26_0)) ?_
  refine zdla 10 (fun w hS => (xlp 0 (ds := [vL, vD, .int .i64 p.stock, .int .i64 p.kerf]) st_24 hS)) ?_
  refine zdla 11 (fun w hS => (xls 6 st_63 hS)) ?_
  refine zdv 13 (fun _ => (xfb 0 fd_26_0)) ?_
  refine zdla 14 (fun w hS => (xlp 0 (ds := [vL, vD, .int .i64 p.stock, .int .i64 p.kerf]) st_24 hS)) ?_
  refine zdla 15 (fun w hS => (xls 5 st_58 hS)) ?_
  refine zdc 12 (xc0 cl_26) (c_right (u := u) (pv := pv) (ln := ln) (pt := pt) (cnt := cnt) (p := p) (nb := (IntKind.i64.wrap (b + 1))) (t := u2) w (⟨(hS.rowN 7 rfl), fun k k0 k1 => (hV.p k k0 k1).below hS.below, hV.room⟩ : VAt _ vtth1 u pv ln pt cnt) (h.below hS.below) (Tr.frame_kat (E := 54) _ hsimu2 (hK) (hS.holds (.sem (Tr.frame 54 u2)) (by repeat first | exact List.mem_cons_self .. | apply List.mem_cons_of_mem))) (Sim.vat _ hsimu2 (LvAt.below hS.below (hT))) (by omega)) ?_; rintro _ w ⟨rfl, hS'⟩
  replace hS := hS.cmp hS'; clear hS'
  refine ⟨⟨fun _ => hS, hS⟩, ?_⟩
  refine zdc 16 (xc0 cl_27) (c_rright (u := u) (pv := pv) (ln := ln) (pt := pt) (cnt := cnt) (p := p) (nb := (IntKind.i64.wrap (b + 1))) (t := t) w (hV.below hS.below) (h.below hS.below) (KAt.below hS.below (hK)) (LvAt.below hS.below (hT)) (by omega)) ?_; rintro _ w ⟨rfl, hS'⟩
  replace hS := hS.cmp hS'; clear hS'
  refine ⟨⟨fun _ => hS, hS⟩, ?_⟩
  refine zdb 71 ?_ ?_ <;> intro hc
  ·
   refine zdb 75 ?_ ?_ <;> intro hc
   ·
    refine zdv 17 (fun _ => (xany (v := .bool true))) ?_
    refine zdv 18 (fun _ => xpt) ?_
    refine zdv 19 (fun _ => xas) ?_
    refine zdd <| ztn <| zrt <| zf1 ⟨_, rfl, ?_⟩
    exact ⟨rfl, hS.nl⟩
   refine zdv 17 (fun _ => (xany (v := .bool false))) ?_
   refine zdv 18 (fun _ => xpt) ?_
   refine zdv 19 (fun _ => xas) ?_
   refine zdd <| ztn <| zrt <| zf1 ⟨_, rfl, ?_⟩
   exfalso; first | omega | contradiction | exact absurd ((sim_right hsimu2).1 ‹RightP p (IntKind.i64.wrap (b + 1)) u ln pt cnt u2›) ‹¬ (RightP p (IntKind.i64.wrap (b + 1)) u ln pt cnt t)› | exact absurd ((sim_right hsimu2).2 ‹RightP p (IntKind.i64.wrap (b + 1)) u ln pt cnt t›) ‹¬ (RightP p (IntKind.i64.wrap (b + 1)) u ln pt cnt u2)›
  refine zdb 75 ?_ ?_ <;> intro hc
  ·
   refine zdv 17 (fun _ => (xany (v := .bool false))) ?_
   refine zdv 18 (fun _ => xpt) ?_
   refine zdv 19 (fun _ => xas) ?_
   refine zdd <| ztn <| zrt <| zf1 ⟨_, rfl, ?_⟩
   exfalso; first | omega | contradiction | exact absurd ((sim_right hsimu2).1 ‹RightP p (IntKind.i64.wrap (b + 1)) u ln pt cnt u2›) ‹¬ (RightP p (IntKind.i64.wrap (b + 1)) u ln pt cnt t)› | exact absurd ((sim_right hsimu2).2 ‹RightP p (IntKind.i64.wrap (b + 1)) u ln pt cnt t›) ‹¬ (RightP p (IntKind.i64.wrap (b + 1)) u ln pt cnt u2)›
  refine zdv 17 (fun _ => (xany (v := .bool true))) ?_
  refine zdv 18 (fun _ => xpt) ?_
  refine zdv 19 (fun _ => xas) ?_
  refine zdd <| ztn <| zrt <| zf1 ⟨_, rfl, ?_⟩
  exact ⟨rfl, hS.nl⟩
end Go.Proofs.YtkichmnjjblodaaGreat
namespace Go.Proofs.Gw
open Go Go.RowKit Go.ChangeShapes Go.WideShapes Go.ChangeAt
section
variable {H : Type} {enc : TypeId × Value → H} {P : Program} {w : World} {held : Bool}
def Small {H : Type} (P : Program) (t : TypeId) (d : DataW H) : Prop := (d.weights P t).all (· ≤ reachBytes) = true
theorem small_each {ts : List TypeId} {ds : List (DataW H)} (h : (DataW.weightsEach P ts ds).all (· ≤ reachBytes) = true) {j : Nat} {t : TypeId} {d : DataW H} (ht : ts[j]? = some t) (hd : ds[j]? = some d) : Small P t d :=
  List.all_eq_true.2 fun n hn => List.all_eq_true.1 h n (DataW.weights_mem_each ht hd n hn)
theorem small_struct {t : TypeId} {fs : Array Field} {parts : List (DataW H)} (h : Small P t (.agg parts)) (hu : P.underlying t = some (.struct fs)) {j : Nat} {u : TypeId} {d : DataW H} (ht : (fs.toList.map (·.type))[j]? = some u) (hd : parts[j]? = some d) : Small P u d := by
  unfold Small at h
  simp only [DataW.weights, hu] at h
  exact small_each h ht hd
theorem small_all {e : TypeId} : ∀ {ds : List (DataW H)}, (DataW.weightsAll P e ds).all (· ≤ reachBytes) = true → ∀ d ∈ ds, Small P e d
  | [], _, d, hd => by cases hd
  | x :: r, h, d, hd => by
    simp only [DataW.weightsAll, List.all_append, Bool.and_eq_true] at h
    rcases List.mem_cons.1 hd with rfl | hd
    · exact h.1
    · exact small_all h.2 d hd
theorem small_slice {t e : TypeId} {elems spare : List (DataW H)} (h : Small P t (.slice elems spare)) (hu : P.underlying t = some (.slice e)) : (elems.length + spare.length) * P.bytesOf e ≤ reachBytes ∧ ∀ d ∈ elems, Small P e d := by
  unfold Small at h
  simp only [DataW.weights, hu, List.all_cons, List.all_append, Bool.and_eq_true, decide_eq_true_eq] at h
  exact ⟨h.1, small_all h.2.1⟩
theorem wf_i64 {n : Int} (h : (Lit.int .i64 n).wf = true) : -9223372036854775808 ≤ n ∧ n ≤ 9223372036854775807 := by
  simp only [Lit.wf, Bool.and_eq_true, decide_eq_true_eq] at h
  have h1 : IntKind.i64.min = -9223372036854775808 := by decide
  have h2 : IntKind.i64.max = 9223372036854775807 := by decide
  omega
theorem spot_none {a : Addr} {v : Value} (h : w.cell? a = some v) : a.spot = none := World.cell?_spot h
end
end Go.Proofs.Gw
namespace Go.Proofs.Gw
open Go Go.RowKit Go.ChangeShapes Go.WideShapes Go.ChangeAt
section
variable {H : Type} {enc : TypeId × Value → H} {P : Program} {w : World} {held : Bool}
def Rd {H : Type} (enc : TypeId × Value → H) (P : Program) (w : World) (held : Bool) (t : TypeId) (cs : List Value) : Prop := ∃ fuel y, DataW.trod enc P w 0 (fun _ => true) held fuel t cs = some y ∧ Small P t y.1
theorem Rd.int {k : IntKind} {t : TypeId} {cs : List Value} (h : Rd enc P w held t cs) (ht : P.underlying t = some (.int k)) : ∃ n, cs = [.int k n] ∧ (Lit.int k n).wf = true := by
  obtain ⟨fuel, y, h, _⟩ := h
  obtain ⟨n, h1, _, h2⟩ := DataW.trod_int ht h
  exact ⟨n, h1, h2⟩
theorem Rd.intv {k : IntKind} {t : TypeId} {v : Value} (h : Rd enc P w held t [v]) (ht : P.underlying t = some (.int k)) : ∃ n, v = .int k n ∧ (Lit.int k n).wf = true := by
  obtain ⟨n, h1, h2⟩ := h.int ht
  exact ⟨n, by simpa using h1, h2⟩
theorem Rd.struct {fs : Array Field} {t : TypeId} {cs : List Value} (h : Rd enc P w held t cs) (ht : P.underlying t = some (.struct fs)) : ∀ (j : Nat) (f : Field), fs[j]? = some f → Rd enc P w held f.type ((cs.drop f.offset).take (P.cellsOf f.type)) := fun j f hf => by
  obtain ⟨fuel, y, h, hs⟩ := h
  obtain ⟨xs, n, _, rfl, hl, hlen, hx⟩ := DataW.trod_struct ht h
  have hj : j < xs.length := by rw [hlen]; exact (Array.getElem?_eq_some_iff.1 hf).1
  have h1 := hx j f hf
  rw [List.getElem?_eq_getElem hj] at h1
  exact ⟨n, _, h1, small_struct (j := j) hs ht (by simp [hf]) (by simp [hj])⟩
theorem Rd.len {fs : Array Field} {t : TypeId} {cs : List Value} (h : Rd enc P w held t cs) (ht : P.underlying t = some (.struct fs)) : cs.length = P.cellsOf t := by
  obtain ⟨fuel, y, h, hs⟩ := h
  obtain ⟨xs, n, _, rfl, hl, hlen, hx⟩ := DataW.trod_struct ht h
  exact hl
theorem Rd.slice {t e : TypeId} {s b : Nat} {v : Value} (h : Rd enc P w held t [v]) (ht : P.underlying t = some (.slice e)) (ce : P.cellsOf e = s) (be : P.bytesOf e = b) (hs1 : 1 ≤ s) (hsb : s ≤ b) :
    ∃ (n : Int) (c : Int → Value), Row w v s n c ∧ b * n ≤ 140737488351232 ∧ ∀ i : Int, 0 ≤ i → i < n → Rd enc P w held e ((List.range s).map fun j : Nat => c (i * s + j)) := by
  obtain ⟨fuel, y, h, hs⟩ := h
  rcases Go.Deep.open_slice ht h with ⟨hcs, _⟩ | ⟨a, len, cap, m, n, D, Pl, hcs, _, hl, hm, hmm, hy, hx⟩
  · simp only [List.cons.injEq, and_true] at hcs
    subst hcs
    exact ⟨0, fun _ => undef, ⟨⟨by omega, by omega, none, 0, rfl, .inl rfl⟩, fun k hk => by rw [Int.zero_mul] at hk; omega⟩, by omega, fun i a0 a1 => by omega⟩
  · simp only [List.cons.injEq, and_true] at hcs
    subst hcs
    simp only [if_true] at hmm
    subst hmm
    rw [hy] at hs
    have hsm := small_slice hs ht
    have hb1 := hsm.1
    rw [be] at hb1
    simp only [List.length_map, List.length_range] at hb1
    have h2 : len * b ≤ (len + (m - len)) * b := Nat.mul_le_mul_right _ (by omega)
    have h3 : len * b ≤ 140737488351232 := by unfold reachBytes at hb1; omega
    have h4 : len * 1 ≤ len * b := Nat.mul_le_mul_left _ (by omega)
    rw [ce] at hx
    have e0 : ∀ i : Nat, ∃ cs' : List Value, i < len → w.cells? 0 (a.add (i * s)) s = some cs' ∧ DataW.trod enc P w 0 (fun _ => true) held n e cs' = some (D i, Pl i) := fun i => by
      by_cases hi : i < len
      · obtain ⟨cs', h5, h6⟩ := hx i (by omega)
        exact ⟨cs', fun _ => ⟨h5, h6⟩⟩
      · exact ⟨[], fun h => absurd h hi⟩
    obtain ⟨C, hC⟩ := Classical.axiomOfChoice e0
    have hsp0 : 0 < len → a.spot = none := fun h0 => by
      obtain ⟨_, h7, h8⟩ := World.cells?_some (hC 0 h0).1
      have h9 := h8 0 (by omega)
      rw [List.getElem?_eq_getElem (by omega)] at h9
      have h10 := spot_none h9
      simpa [Addr.add] using h10
    refine ⟨len, fun k => (C (k / s).toNat).getD (k % s).toNat undef, ⟨⟨by omega, by omega, some a, m, by simp, ?_⟩, fun j hj => ?_⟩, ?_, fun i i0 i1 => ?_⟩
    · by_cases hl0 : len = 0
      · left; omega
      · right
        have hsp := hsp0 (by omega)
        exact ⟨a.block, a.off, by cases a; simp at hsp; simp [hsp]⟩
    · have hjs : j < len * s := by rw [← Int.natCast_mul] at hj; omega
      have hi : j / s < len := (Nat.div_lt_iff_lt_mul (by omega)).2 hjs
      have hlen0 : 0 < len := Nat.lt_of_le_of_lt (Nat.zero_le _) hi
      have hsp := hsp0 hlen0
      obtain ⟨_, h7, h8⟩ := World.cells?_some (hC (j / s) hi).1
      have hr : j % s < s := Nat.mod_lt _ (by omega)
      have h9 := h8 (j % s) hr
      rw [Addr.add_eq a hsp, Addr.add_eq _ rfl] at h9
      have e1 : ((j : Int) / (s : Int)).toNat = j / s := by rw [← Int.natCast_ediv, Int.toNat_natCast]
      have e2 : ((j : Int) % (s : Int)).toNat = j % s := by rw [← Int.natCast_emod, Int.toNat_natCast]
      have e3 : a.off + j / s * s + j % s = a.off + j := by rw [Nat.add_assoc, Nat.mul_comm, Nat.div_add_mod]
      rw [List.getElem?_eq_getElem (by omega)] at h9
      simp only [e1, e2, List.getD_eq_getElem?_getD]
      rw [List.getElem?_eq_getElem (by omega)]
      simp only [cad, Int.toNat_natCast, Option.getD_some]
      simp only [e3] at h9
      exact h9
    · have : ((len * b : Nat) : Int) = b * len := by rw [Int.natCast_mul, Int.mul_comm]
      omega
    · obtain ⟨k, rfl⟩ := Int.eq_ofNat_of_zero_le i0
      have hk : k < len := by omega
      obtain ⟨h5, h6⟩ := hC k hk
      obtain ⟨_, h7, h8⟩ := World.cells?_some h5
      have e : ((List.range s).map fun j : Nat => (C (((k : Int) * (s : Int) + (j : Int)) / (s : Int)).toNat).getD (((k : Int) * (s : Int) + (j : Int)) % (s : Int)).toNat undef) = C k := by
        apply List.ext_getElem
        · simp [h7]
        · intro j hj1 hj2
          rw [List.getElem_map, List.getElem_range]
          have hjs : j < s := by simpa using hj1
          have e0 : ((k : Int) * (s : Int) + (j : Int)) = ((k * s + j : Nat) : Int) := by rw [Int.natCast_add, Int.natCast_mul]
          have e1 : (((k * s + j : Nat) : Int) / (s : Int)).toNat = k := by
            rw [← Int.natCast_ediv, Int.toNat_natCast, Nat.mul_comm, Nat.mul_add_div (by omega), Nat.div_eq_of_lt hjs, Nat.add_zero]
          have e2 : (((k * s + j : Nat) : Int) % (s : Int)).toNat = j := by
            rw [← Int.natCast_emod, Int.toNat_natCast, Nat.mul_comm, Nat.mul_add_mod, Nat.mod_eq_of_lt hjs]
          rw [e0, e1, e2, List.getD_eq_getElem?_getD, List.getElem?_eq_getElem hj2, Option.getD_some]
      rw [e]
      exact ⟨n, _, h6, hsm.2 (D k) (List.mem_map.2 ⟨k, List.mem_range.2 hk, rfl⟩)⟩
theorem Rd.array {n : Nat} {t e : TypeId} {cs : List Value} (h : Rd enc P w held t cs) (ht : P.underlying t = some (.array n e)) : ∀ i, i < n → Rd enc P w held e ((cs.drop (i * P.cellsOf e)).take (P.cellsOf e)) := fun i hi => by
  obtain ⟨fuel, y, h, hs⟩ := h
  obtain ⟨xs, m, _, rfl, _, hl, hel⟩ := DataW.trod_array ht h
  have h1 := hel i hi
  rw [List.getElem?_eq_getElem (by omega)] at h1
  refine ⟨m, _, h1, ?_⟩
  unfold Small at hs
  simp only [DataW.weights, ht] at hs
  exact small_all hs _ (List.mem_map.2 ⟨xs[i], List.getElem_mem _, rfl⟩)
theorem Rd.field {fs : Array Field} {t u : TypeId} {cs ds : List Value} (h : Rd enc P w held t cs) (ht : P.underlying t = some (.struct fs)) (j : Nat) {f : Field} (hf : fs[j]? = some f) {k : Nat} (hu : f.type = u) (hk : P.cellsOf u = k) (hd : (cs.drop f.offset).take k = ds) : Rd enc P w held u ds := by
  subst hu; subst hd; rw [← hk]; exact h.struct ht j f hf
theorem toList_inj {cs : Array Value} {l : List Value} (h : cs.toList = l) : cs = l.toArray := by subst h; simp
theorem Rd.arg {t : TypeId} {v : Value} {d : DataW H} {p : List MemPlace} (h : DataW.Trod enc P w 0 (fun _ => true) held t v d p) (hs : Small P t d) : Rd enc P w held t v.cells.toList := by
  obtain ⟨fuel, hf⟩ := h
  exact ⟨fuel, _, hf, hs⟩
theorem list3 {cs : List Value} (h : cs.length = 3) : ∃ a b c, cs = [a, b, c] := by match cs, h with | [a, b, c], _ => exact ⟨_, _, _, rfl⟩
theorem list5 {cs : List Value} (h : cs.length = 5) : ∃ a b c d e, cs = [a, b, c, d, e] := by match cs, h with | [a, b, c, d, e], _ => exact ⟨_, _, _, _, _, rfl⟩
theorem Rd.nums {k : IntKind} {t e : TypeId} {b : Nat} {v : Value} (h : Rd enc P w held t [v]) (ht : P.underlying t = some (.slice e)) (he : P.underlying e = some (.int k)) (hc : P.cellsOf e = 1) (hb : P.bytesOf e = b) (hb1 : 1 ≤ b) :
    ∃ (n : Int) (f : Int → Int), Row w v 1 n (fun j => .int k (f j)) ∧ b * n ≤ 140737488351232 ∧ ∀ j, (Lit.int k (f j)).wf = true := by
  obtain ⟨n, c, h1, h2, h3⟩ := h.slice ht hc hb (by omega) hb1
  have h0 : (Lit.int k 0).wf = true := by cases k <;> decide
  have e0 : ∀ i : Int, ∃ x : Int, (Lit.int k x).wf = true ∧ (0 ≤ i → i < n → c i = .int k x) := fun i => by
    by_cases hi : 0 ≤ i ∧ i < n
    · have h4 := h3 i hi.1 hi.2
      simp only [List.range_one, List.map_cons, List.map_nil] at h4
      obtain ⟨x, hx, hw⟩ := h4.intv he
      refine ⟨x, hw, fun _ _ => ?_⟩
      rw [← hx]; congr 1; omega
    · exact ⟨0, h0, fun a0 a1 => absurd ⟨a0, a1⟩ hi⟩
  obtain ⟨f, hf⟩ := Classical.axiomOfChoice e0
  exact ⟨n, f, h1.congr fun i i0 i1 => (hf i).2 i0 (by omega), h2, fun j => (hf j).1⟩
theorem Rd.ints {t e : TypeId} {v : Value} (h : Rd enc P w held t [v]) (ht : P.underlying t = some (.slice e)) (he : P.underlying e = some (.int .i64)) (hc : P.cellsOf e = 1) (hb : P.bytesOf e = 8) : ∃ (n : Int) (f : Int → Int), IAt w v n f := by
  obtain ⟨n, f, h1, _, h2⟩ := h.nums ht he hc hb (by omega)
  exact ⟨n, f, h1, fun k => wf_i64 (h2 k)⟩
end
end Go.Proofs.Gw
namespace Go.Proofs.Gw
open Go Go.RowKit
section
variable {H : Type} {enc : TypeId × Value → H} {P : Program} {w : World} {held : Bool}
theorem Rd.roomy {t e : TypeId} {v : Value} (h : Rd enc P w true t [v]) (ht : P.underlying t = some (.slice e)) : Roomy v := by
  obtain ⟨fuel, y, h, hs⟩ := h
  rcases Go.Deep.open_slice ht h with ⟨hcs, _⟩ | ⟨a, len, cap, m, n, D, Pl, hcs, _, hl, hm, hmm, hy, hx⟩
  · simp only [List.cons.injEq, and_true] at hcs
    subst hcs
    intro a len cap e
    cases e
    omega
  · simp only [List.cons.injEq, and_true] at hcs
    subst hcs
    simp only [if_true] at hmm
    subst hmm
    intro a len cap e
    cases e
    omega
end
end Go.Proofs.Gw
namespace Go.Proofs.Gw
open Go Go.RowKit
section
variable {H : Type} {enc : TypeId × Value → H} {P : Program} {w : World} {held : Bool}
theorem Rd.uses {t e i : TypeId} {f0 f1 : Field} {b : Nat} {v : Value} (h : Rd enc P w true t [v]) (ht : P.underlying t = some (.slice e)) (he : P.underlying e = some (.struct #[f0, f1])) (ce : P.cellsOf e = 2) (be : P.bytesOf e = b) (hb : 2 ≤ b)
    (o0 : f0.offset = 0) (o1 : f1.offset = 1) (c0 : P.cellsOf f0.type = 1) (c1 : P.cellsOf f1.type = 1) (u0 : P.underlying f0.type = some (.slice i)) (u1 : P.underlying f1.type = some (.int .i64)) (hi : P.underlying i = some (.int .i64)) (ci : P.cellsOf i = 1) (bi : P.bytesOf i = 8) :
    ∃ (n : Int) (pv : Int → Value) (ln : Int → Int) (pt : Int → Int → Int) (cnt : Int → Int), UAt w v n pv ln pt cnt ∧ ∀ k, 0 ≤ k → k < n → Roomy (pv k) := by
  obtain ⟨n, c, h1, h2, h3⟩ := h.slice ht ce be (by omega) hb
  have e0 : ∀ k : Int, ∃ x : Value × Int × (Int → Int) × Int, (0 ≤ k → k < n → c (2 * k) = x.1 ∧ c (2 * k + 1) = .int .i64 x.2.2.2 ∧ IAt w x.1 x.2.1 x.2.2.1 ∧ Roomy x.1) ∧ (-9223372036854775808 ≤ x.2.2.2 ∧ x.2.2.2 ≤ 9223372036854775807) := fun k => by
    by_cases hk : 0 ≤ k ∧ k < n
    · have h4 := h3 k hk.1 hk.2
      have e : ((List.range 2).map fun j : Nat => c (k * (2 : Nat) + j)) = [c (2 * k), c (2 * k + 1)] := by
        simp [List.range_succ]
        exact ⟨by congr 1; omega, by congr 1; omega⟩
      rw [e] at h4
      have h5 := h4.field he 0 rfl rfl c0 (ds := [c (2 * k)]) (by show List.take 1 (List.drop f0.offset _) = _; rw [o0]; rfl)
      obtain ⟨m, f, hf⟩ := h5.ints u0 hi ci bi
      obtain ⟨y, hy, wy⟩ := (h4.field he 1 rfl rfl c1 (ds := [c (2 * k + 1)]) (by show List.take 1 (List.drop f1.offset _) = _; rw [o1]; rfl)).intv u1
      exact ⟨(c (2 * k), m, f, y), fun _ _ => ⟨rfl, hy, hf, h5.roomy u0⟩, wf_i64 wy⟩
    · exact ⟨(undef, 0, fun _ => 0, 0), fun a0 a1 => absurd ⟨a0, a1⟩ hk, by dsimp only; omega⟩
  obtain ⟨f, hf⟩ := Classical.axiomOfChoice e0
  refine ⟨n, fun k => (f k).1, fun k => (f k).2.1, fun k => (f k).2.2.1, fun k => (f k).2.2.2, ⟨h1.congr fun k k0 k1 => ?_, fun k k0 k1 => ((hf k).1 k0 k1).2.2.1, fun k => (hf k).2⟩, fun k k0 k1 => ((hf k).1 k0 k1).2.2.2⟩
  unfold ucells
  by_cases e : k % 2 = 0
  · rw [if_pos e]; show c k = (f (k / 2)).1; rw [← ((hf (k / 2)).1 (by omega) (by omega)).1]; congr 1; omega
  · rw [if_neg e]; show c k = .int .i64 (f (k / 2)).2.2.2; rw [← ((hf (k / 2)).1 (by omega) (by omega)).2.1]; congr 1; omega
end
end Go.Proofs.Gw
namespace Go.Proofs.Gw
open Go Go.RowKit Go.ChangeShapes Go.WideShapes Go.ChangeAt
section
variable {H : Type} {enc : TypeId × Value → H} {P : Program} {w : World} {held : Bool}
def RdD {H : Type} (enc : TypeId × Value → H) (P : Program) (w : World) (held : Bool) (t : TypeId) (cs : List Value) (d : DataW H) : Prop := ∃ fuel y, DataW.trod enc P w 0 (fun _ => true) held fuel t cs = some y ∧ y.1 = d ∧ Small P t y.1
theorem RdD.rd {t : TypeId} {cs : List Value} {d : DataW H} (h : RdD enc P w held t cs d) : Rd enc P w held t cs := by
  obtain ⟨fuel, y, h, _, hs⟩ := h; exact ⟨fuel, y, h, hs⟩
theorem Rd.data {t : TypeId} {cs : List Value} (h : Rd enc P w held t cs) : ∃ d, RdD enc P w held t cs d := by
  obtain ⟨fuel, y, h, hs⟩ := h; exact ⟨y.1, fuel, y, h, rfl, hs⟩
theorem RdD.struct {fs : Array Field} {t : TypeId} {cs : List Value} {d : DataW H} (h : RdD enc P w held t cs d) (ht : P.underlying t = some (.struct fs)) (j : Nat) {f : Field} (hf : fs[j]? = some f) {u : TypeId} (hu : f.type = u) {k : Nat} (hk : P.cellsOf u = k) {ds : List Value} (hds : (cs.drop f.offset).take k = ds) : ∃ d', SizeOf.sizeOf d' < SizeOf.sizeOf d ∧ RdD enc P w held u ds d' := by
  subst hu; subst hk; subst hds
  obtain ⟨fuel, y, h, hd, hs⟩ := h
  obtain ⟨xs, n, _, rfl, hl, hlen, hx⟩ := DataW.trod_struct ht h
  have hj : j < xs.length := by rw [hlen]; exact (Array.getElem?_eq_some_iff.1 hf).1
  have h1 := hx j f hf
  rw [List.getElem?_eq_getElem hj] at h1
  have hmem : (xs[j]).1 ∈ xs.map (·.1) := List.mem_map.2 ⟨_, List.getElem_mem hj, rfl⟩
  refine ⟨(xs[j]).1, ?_, n, _, h1, rfl, small_struct (j := j) hs ht (by simp [hf]) (by simp [hj])⟩
  have h9 := List.sizeOf_lt_of_mem hmem
  rw [← hd]
  simp only [DataW.agg.sizeOf_spec]
  omega
theorem RdD.slice {t e : TypeId} {s b : Nat} {v : Value} {d : DataW H} (h : RdD enc P w held t [v] d) (ht : P.underlying t = some (.slice e)) (ce : P.cellsOf e = s) (be : P.bytesOf e = b) (hs1 : 1 ≤ s) (hsb : s ≤ b) :
    ∃ (n : Int) (c : Int → Value), Row w v s n c ∧ b * n ≤ 140737488351232 ∧ ∀ i : Int, 0 ≤ i → i < n → ∃ d', SizeOf.sizeOf d' < SizeOf.sizeOf d ∧ RdD enc P w held e ((List.range s).map fun j : Nat => c (i * s + j)) d' := by
  obtain ⟨fuel, y, h, hd, hs⟩ := h
  rcases Go.Deep.open_slice ht h with ⟨hcs, _⟩ | ⟨a, len, cap, m, n, D, Pl, hcs, _, hl, hm, hmm, hy, hx⟩
  · simp only [List.cons.injEq, and_true] at hcs
    subst hcs
    exact ⟨0, fun _ => undef, ⟨⟨by omega, by omega, none, 0, rfl, .inl rfl⟩, fun k hk => by rw [Int.zero_mul] at hk; omega⟩, by omega, fun i a0 a1 => by omega⟩
  · simp only [List.cons.injEq, and_true] at hcs
    subst hcs
    simp only [if_true] at hmm
    subst hmm
    rw [hy] at hs
    have hsm := small_slice hs ht
    have hb1 := hsm.1
    rw [be] at hb1
    simp only [List.length_map, List.length_range] at hb1
    have h2 : len * b ≤ (len + (m - len)) * b := Nat.mul_le_mul_right _ (by omega)
    have h3 : len * b ≤ 140737488351232 := by unfold reachBytes at hb1; omega
    have h4 : len * 1 ≤ len * b := Nat.mul_le_mul_left _ (by omega)
    rw [ce] at hx
    have e0 : ∀ i : Nat, ∃ cs' : List Value, i < len → w.cells? 0 (a.add (i * s)) s = some cs' ∧ DataW.trod enc P w 0 (fun _ => true) held n e cs' = some (D i, Pl i) := fun i => by
      by_cases hi : i < len
      · obtain ⟨cs', h5, h6⟩ := hx i (by omega)
        exact ⟨cs', fun _ => ⟨h5, h6⟩⟩
      · exact ⟨[], fun h => absurd h hi⟩
    obtain ⟨C, hC⟩ := Classical.axiomOfChoice e0
    have hsp0 : 0 < len → a.spot = none := fun h0 => by
      obtain ⟨_, h7, h8⟩ := World.cells?_some (hC 0 h0).1
      have h9 := h8 0 (by omega)
      rw [List.getElem?_eq_getElem (by omega)] at h9
      have h10 := spot_none h9
      simpa [Addr.add] using h10
    refine ⟨len, fun k => (C (k / s).toNat).getD (k % s).toNat undef, ⟨⟨by omega, by omega, some a, m, by simp, ?_⟩, fun j hj => ?_⟩, ?_, fun i i0 i1 => ?_⟩
    · by_cases hl0 : len = 0
      · left; omega
      · right
        have hsp := hsp0 (by omega)
        exact ⟨a.block, a.off, by cases a; simp at hsp; simp [hsp]⟩
    · have hjs : j < len * s := by rw [← Int.natCast_mul] at hj; omega
      have hi : j / s < len := (Nat.div_lt_iff_lt_mul (by omega)).2 hjs
      have hlen0 : 0 < len := Nat.lt_of_le_of_lt (Nat.zero_le _) hi
      have hsp := hsp0 hlen0
      obtain ⟨_, h7, h8⟩ := World.cells?_some (hC (j / s) hi).1
      have hr : j % s < s := Nat.mod_lt _ (by omega)
      have h9 := h8 (j % s) hr
      rw [Addr.add_eq a hsp, Addr.add_eq _ rfl] at h9
      have e1 : ((j : Int) / (s : Int)).toNat = j / s := by rw [← Int.natCast_ediv, Int.toNat_natCast]
      have e2 : ((j : Int) % (s : Int)).toNat = j % s := by rw [← Int.natCast_emod, Int.toNat_natCast]
      have e3 : a.off + j / s * s + j % s = a.off + j := by rw [Nat.add_assoc, Nat.mul_comm, Nat.div_add_mod]
      rw [List.getElem?_eq_getElem (by omega)] at h9
      simp only [e1, e2, List.getD_eq_getElem?_getD]
      rw [List.getElem?_eq_getElem (by omega)]
      simp only [cad, Int.toNat_natCast, Option.getD_some]
      simp only [e3] at h9
      exact h9
    · have : ((len * b : Nat) : Int) = b * len := by rw [Int.natCast_mul, Int.mul_comm]
      omega
    · obtain ⟨k, rfl⟩ := Int.eq_ofNat_of_zero_le i0
      have hk : k < len := by omega
      obtain ⟨h5, h6⟩ := hC k hk
      obtain ⟨_, h7, h8⟩ := World.cells?_some h5
      have e : ((List.range s).map fun j : Nat => (C (((k : Int) * (s : Int) + (j : Int)) / (s : Int)).toNat).getD (((k : Int) * (s : Int) + (j : Int)) % (s : Int)).toNat undef) = C k := by
        apply List.ext_getElem
        · simp [h7]
        · intro j hj1 hj2
          rw [List.getElem_map, List.getElem_range]
          have hjs : j < s := by simpa using hj1
          have e0 : ((k : Int) * (s : Int) + (j : Int)) = ((k * s + j : Nat) : Int) := by rw [Int.natCast_add, Int.natCast_mul]
          have e1 : (((k * s + j : Nat) : Int) / (s : Int)).toNat = k := by
            rw [← Int.natCast_ediv, Int.toNat_natCast, Nat.mul_comm, Nat.mul_add_div (by omega), Nat.div_eq_of_lt hjs, Nat.add_zero]
          have e2 : (((k * s + j : Nat) : Int) % (s : Int)).toNat = j := by
            rw [← Int.natCast_emod, Int.toNat_natCast, Nat.mul_comm, Nat.mul_add_mod, Nat.mod_eq_of_lt hjs]
          rw [e0, e1, e2, List.getD_eq_getElem?_getD, List.getElem?_eq_getElem hj2, Option.getD_some]
      rw [e]
      have hmem : D k ∈ (List.range len).map D := List.mem_map.2 ⟨k, List.mem_range.2 hk, rfl⟩
      refine ⟨D k, ?_, n, _, h6, rfl, hsm.2 (D k) hmem⟩
      rw [← hd, hy]
      have h9 := List.sizeOf_lt_of_mem hmem
      simp only [DataW.slice.sizeOf_spec]
      omega
theorem tree_read {T TK TL TI : TypeId} {f0 f1 f2 : Field} (hT : P.underlying T = some (.struct #[f0, f1, f2])) (o0 : f0.offset = 0) (o1 : f1.offset = 1) (o2 : f2.offset = 2) (t0 : f0.type = TI) (t1 : f1.type = TK) (t2 : f2.type = TL)
    (hTK : P.underlying TK = some (.slice T)) (hTL : P.underlying TL = some (.slice TI)) (hTI : P.underlying TI = some (.int .i64)) (cT : P.cellsOf T = 3) (bT : P.bytesOf T = 56) (cK : P.cellsOf TK = 1) (cL : P.cellsOf TL = 1) (cI : P.cellsOf TI = 1) (bI : P.bytesOf TI = 8) :
    ∀ (N : Nat) {d : DataW H} {cs : List Value}, SizeOf.sizeOf d < N → RdD enc P w true T cs d → ∃ t : Tr, cs = [.int .i64 t.s, t.vK, t.vL] ∧ KAt w t ∧ LvAt w t
  | 0, d, cs, hN, h => by omega
  | N + 1, d, cs, hN, h => by
    have hl := h.rd.len hT
    rw [cT] at hl
    obtain ⟨a, b, c, rfl⟩ := list3 hl
    obtain ⟨d0, _, h0⟩ := h.struct hT 0 rfl t0 cI (ds := [a]) (by show List.take 1 (List.drop f0.offset _) = _; rw [o0]; rfl)
    obtain ⟨d1, l1, h1⟩ := h.struct hT 1 rfl t1 cK (ds := [b]) (by show List.take 1 (List.drop f1.offset _) = _; rw [o1]; rfl)
    obtain ⟨d2, _, h2⟩ := h.struct hT 2 rfl t2 cL (ds := [c]) (by show List.take 1 (List.drop f2.offset _) = _; rw [o2]; rfl)
    obtain ⟨s, rfl, ws⟩ := h0.rd.intv hTI
    obtain ⟨nl, l, hL⟩ := h2.rd.ints hTL hTI cI bI
    have hR := h2.rd.roomy hTL
    obtain ⟨n, q, hq, hb, hk⟩ := h1.slice hTK cT bT (by omega) (by omega)
    have e0 : ∀ i : Int, ∃ t : Tr, 0 ≤ i → i < n → (q (3 * i) = .int .i64 t.s ∧ q (3 * i + 1) = t.vK ∧ q (3 * i + 2) = t.vL) ∧ KAt w t ∧ LvAt w t := fun i => by
      by_cases hi : 0 ≤ i ∧ i < n
      · obtain ⟨d', l', h'⟩ := hk i hi.1 hi.2
        obtain ⟨t, e1, e2, e3⟩ := tree_read hT o0 o1 o2 t0 t1 t2 hTK hTL hTI cT bT cK cL cI bI N (by omega) h'
        have e : ((List.range 3).map fun j : Nat => q (i * (3 : Nat) + j)) = [q (3 * i), q (3 * i + 1), q (3 * i + 2)] := by
          simp [List.range_succ]
          exact ⟨by congr 1; omega, by congr 1; omega, by congr 1; omega⟩
        rw [e] at e1
        simp only [List.cons.injEq, and_true] at e1
        exact ⟨t, fun _ _ => ⟨e1, e2, e3⟩⟩
      · exact ⟨Tr.nil, fun a0 a1 => absurd ⟨a0, a1⟩ hi⟩
    obtain ⟨kid, hkid⟩ := Classical.axiomOfChoice e0
    refine ⟨.mk s b n kid c nl l, rfl, ⟨⟨hq.congr fun k k0 k1 => ?_, by omega⟩, fun i i0 i1 => (hkid i i0 i1).2.1⟩, ⟨hL, hR, wf_i64 ws⟩, fun i i0 i1 => (hkid i i0 i1).2.2⟩
    have k1' : k < n * 3 := k1
    obtain ⟨⟨g0, g1, g2⟩, _⟩ := hkid (k / 3) (by omega) (by omega)
    unfold kcells tcells
    have hc : k % 3 = 0 ∨ k % 3 = 1 ∨ k % 3 = 2 := by omega
    rcases hc with hc | hc | hc
    · rw [if_pos hc, ← g0]; congr 1; omega
    · rw [if_neg (by omega), if_pos hc]; show _ = (kid (k / 3)).vK; rw [← g1]; congr 1; omega
    · rw [if_neg (by omega), if_neg (by omega)]; show _ = (kid (k / 3)).vL; rw [← g2]; congr 1; omega
end
end Go.Proofs.Gw
