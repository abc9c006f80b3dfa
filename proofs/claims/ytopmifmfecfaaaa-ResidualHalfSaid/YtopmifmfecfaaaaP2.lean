/- The walks of the search of the normal form. -/
import Derived.Test.YtopmifmfecfaaaaGv
import Derived.Test.YtopmifmfecfaaaaP1
import Derived.Test.YtopmifmfecfaaaaGu
namespace Go.Proofs.Ytopmifmfecfaaaa
open Go Go.RowKit Go.Proofs.Gw
set_option linter.unusedVariables false

theorem cl_100 : calledT Try.prog 100 = true := by kernel_rfl
theorem cl_96 : calledT Try.prog 96 = true := by kernel_rfl
theorem cl_97 : calledT Try.prog 97 = true := by kernel_rfl
theorem cl_98 : calledT Try.prog 98 = true := by kernel_rfl
theorem fd_50_1 : fieldT Try.prog 50 1 = some 1 := by kernel_rfl
set_option maxRecDepth 20000 in
theorem c_nn1 {vB : Value} {m b : Int} {g : Int → Int} {vA : Value} {n a : Int} {f : Int → Int} {gu : Nat} (w0 : World) (hG : (Ent.blk gu [vA, .int .i64 a]).holds w0) (hA : Row w0 vA 1 n (ints f)) (hB : Row w0 vB 1 m (ints g)) :
    Calls Try.prog 97 [.agg #[vB, .int .i64 b], .pointer (some ⟨gu, 0, none⟩)].toArray w0 fun e w => ∃ v, e = .returned v ∧ v = B (lst n f = lst m g) ∧ Sat w0 w [] := by
  refine zenG Try.func97 Try.ntmps97 fun w hS => ?_
  refine zsr ?_
  refine zla (xbx (cs := [_, _]) hS) ?_; rintro _ w ⟨g1, rfl, hS⟩
  replace hS := hS.n1
  refine zlv xas ?_
  refine zlz ?_
  refine zlv (xfb 0 fd_50_0) ?_
  refine zlv (xlf pl_22 (Ent.holds.cell hG (o := 0) rfl) hS) ?_
  refine zlv (xfb 0 fd_50_0) ?_
  refine zlv (xlb 0 pl_22 hS) ?_
  refine zlc (xc0 cl_98) (c_eqs (n := n) (f := f) (m := m) (g := g) w (hA.below hS.below) (hB.below hS.below)) ?_; rintro _ w ⟨rfl, hS'⟩
  replace hS := hS.cmp hS'; clear hS'
  refine zlv xas ?_
  refine zlt <| zrt <| zf1 ⟨_, rfl, ?_⟩
  exact ⟨rfl, hS.nl⟩

set_option maxRecDepth 20000 in
theorem c_ixn1 {vV : Value} {u : Int} {pv : Int → Value} {ln : Int → Int} {pt : Int → Int → Int} {cnt : Int → Int} {vA : Value} {n a : Int} {f : Int → Int} {gu : Nat} (w0 : World) (hV : VAt w0 vV u pv ln pt cnt) (hG : (Ent.blk gu [vA, .int .i64 a]).holds w0) (hA : Row w0 vA 1 n (ints f)) :
    Calls Try.prog 96 [vV, .func (.func 97) #[] #[.pointer (some ⟨gu, 0, none⟩)]].toArray w0 fun e w => ∃ v, e = .returned v ∧ ∃ r : Int, v = .int .i64 r ∧ ((r = -1 ∧ ∀ k, 0 ≤ k → k < u → ¬ (lst n f = lst (ln k) (pt k))) ∨ (0 ≤ r ∧ r < u ∧ (lst n f = lst (ln r) (pt r)) ∧ ∀ k, 0 ≤ k → k < r → ¬ (lst n f = lst (ln k) (pt k)))) ∧ Sat w0 w [] := by
  have hn := hV.row.slh.n0; have hn1 := hV.row.slh.n1
  refine zenG Try.func96 Try.ntmps96 fun w hS => ?_
  refine zsr ?_
  refine zlv xas ?_
  refine zlt <| zsq <| zsr ?_
  refine zlv xmv ?_
  refine zlv (xln sl_43 hV.row.slh) ?_
  refine zlv xmv ?_
  refine zlt <| zbk <| zlp (fun mm M w => ∃ (i : Int), mm = ((u - i).toNat) ∧ (0 ≤ i) ∧ (i ≤ u) ∧ (∀ k, 0 ≤ k → k < i → ¬ (lst n f = lst (ln k) (pt k))) ∧ M = [(0, vV), (1, .func (.func 97) #[] #[.pointer (some ⟨gu, 0, none⟩)]), (7, .int .i64 u), (8, .int .i64 i)] ∧ Sat w0 w []) ⟨0, rfl, (by omega), (by omega), ?_, rfl, hS⟩ ?_
  ·
   intro k h0 h1; omega
  clear hS w
  rintro mm M w ⟨i, rfl, h0, h1, hall, rfl, hS⟩
  refine zsr ?_
  refine zlv xlss ?_
  refine zlt <| zsq ?_
  refine zcif ?_ ?_ <;> intro hc
  ·
   refine zsk <| ztn <| zsq <| zbk <| zsr ?_
   refine zs2 ?_
   refine zlz ?_
   refine zs3 ?_
   refine zlv (xix (kk := 2 * i) sl_43 hV.row.slh) ?_
   refine zlv (xlw (cs := [(pv i), .int .i64 (cnt i)]) st_50 (hV.row.below hS.below) (ucells_at (k := 2 * i) (i := i) pv cnt (by omega))) ?_
   refine zlc (xcc (vs := [_]) cl_97) (c_nn1 (n := n) (f := f) (m := (ln i)) (g := (pt i)) w (Sat.oldblk hS hG) (hA.below hS.below) ((hV.p i (by omega) (by omega)).below hS.below)) ?_; rintro _ w ⟨rfl, hS'⟩
   replace hS := hS.cmp hS'; clear hS'
   refine zlt ?_
   refine zcif ?_ ?_ <;> intro hc
   ·
    refine zsr ?_
    refine zs2 ?_
    refine zlt <| zrt <| zbr <| ztr <| ztr <| zbr <| ztr <| zf1 ⟨_, rfl, ?_⟩
    exact ⟨i, rfl, .inr ⟨by omega, by omega, ‹lst n f = lst (ln i) (pt i)›, hall⟩, hS⟩
   refine zsk <| zbn <| ztn <| zrg ?_
   refine zlv (xadd (r := i + 1)) ?_
   refine zlv xmv ?_
   refine zln <| zlq ⟨i + 1, rfl, (by omega), (by omega), ?_, rfl, hS⟩
   ·
    intro k h0' h1'; rcases Int.lt_or_eq_of_le (show k ≤ i by omega) with hk | hk; exact hall k h0' hk; rw [hk]; assumption
  refine zxt <| ztx <| ztx <| zbh <| ztn <| zsr ?_
  refine zlv xas ?_
  refine zlt <| zrt <| zf1 ⟨_, rfl, ?_⟩
  exact ⟨-1, rfl, .inl ⟨rfl, fun k h0 h1 => hall k h0 (by omega)⟩, hS⟩

set_option maxRecDepth 20000 in
theorem c_nn2 {vB : Value} {m b : Int} {g : Int → Int} (w0 : World) (hB : Row w0 vB 1 m (ints g)) :
    Calls Try.prog 100 [.agg #[vB, .int .i64 b]].toArray w0 fun e w => ∃ v, e = .returned v ∧ v = B (b < 1) ∧ Sat w0 w [] := by
  refine zenG Try.func100 Try.ntmps100 fun w hS => ?_
  refine zsr ?_
  refine zla (xbx (cs := [_, _]) hS) ?_; rintro _ w ⟨g1, rfl, hS⟩
  replace hS := hS.n1
  refine zlv xas ?_
  refine zlz ?_
  refine zlv (xfb 1 fd_50_1) ?_
  refine zlv (xlb 0 pl_3 hS) ?_
  refine zs2 ?_
  refine zlt <| zrt <| zf1 ⟨_, rfl, ?_⟩
  exact ⟨rfl, hS.nl⟩

set_option maxRecDepth 20000 in
theorem c_ixn2 {vV : Value} {u : Int} {pv : Int → Value} {ln : Int → Int} {pt : Int → Int → Int} {cnt : Int → Int} (w0 : World) (hV : VAt w0 vV u pv ln pt cnt) (hpc : ∀ k, 0 ≤ k → k < u → 1 ≤ cnt k) :
    Calls Try.prog 96 [vV, .func (.func 100) #[] #[]].toArray w0 fun e w => ∃ v, e = .returned v ∧ v = .int .i64 (-1) ∧ Sat w0 w [] := by
  have hn := hV.row.slh.n0; have hn1 := hV.row.slh.n1
  refine zenG Try.func96 Try.ntmps96 fun w hS => ?_
  refine zsr ?_
  refine zlv xas ?_
  refine zlt <| zsq <| zsr ?_
  refine zlv xmv ?_
  refine zlv (xln sl_43 hV.row.slh) ?_
  refine zlv xmv ?_
  refine zlt <| zbk <| zlp (fun mm M w => ∃ (i : Int), mm = ((u - i).toNat) ∧ (0 ≤ i) ∧ (i ≤ u) ∧ M = [(0, vV), (1, .func (.func 100) #[] #[]), (7, .int .i64 u), (8, .int .i64 i)] ∧ Sat w0 w []) ⟨0, rfl, (by omega), (by omega), rfl, hS⟩ ?_
  clear hS w
  rintro mm M w ⟨i, rfl, h0, h1, rfl, hS⟩
  refine zsr ?_
  refine zlv xlss ?_
  refine zlt <| zsq ?_
  refine zcif ?_ ?_ <;> intro hc
  ·
   refine zsk <| ztn <| zsq <| zbk <| zsr ?_
   refine zs2 ?_
   refine zlz ?_
   refine zs3 ?_
   refine zlv (xix (kk := 2 * i) sl_43 hV.row.slh) ?_
   refine zlv (xlw (cs := [(pv i), .int .i64 (cnt i)]) st_50 (hV.row.below hS.below) (ucells_at (k := 2 * i) (i := i) pv cnt (by omega))) ?_
   refine zlc (xc0 cl_100) (c_nn2 (b := (cnt i)) w ((hV.p i (by omega) (by omega)).below hS.below)) ?_; rintro _ w ⟨rfl, hS'⟩
   replace hS := hS.cmp hS'; clear hS'
   refine zlt ?_
   refine zcif ?_ ?_ <;> intro hc
   ·
    refine zsr ?_
    refine zs2 ?_
    refine zlt <| zrt <| zbr <| ztr <| ztr <| zbr <| ztr <| zf1 ⟨_, rfl, ?_⟩
    have := hpc i h0 (by omega)
    omega
   refine zsk <| zbn <| ztn <| zrg ?_
   refine zlv (xadd (r := i + 1)) ?_
   refine zlv xmv ?_
   refine zln <| zlq ⟨i + 1, rfl, (by omega), (by omega), rfl, hS⟩
  refine zxt <| ztx <| ztx <| zbh <| ztn <| zsr ?_
  refine zlv xas ?_
  refine zlt <| zrt <| zf1 ⟨_, rfl, ?_⟩
  exact ⟨rfl, hS⟩

set_option maxRecDepth 20000 in
theorem c_delu {vV : Value} {u : Int} {pv : Int → Value} {ln : Int → Int} {pt : Int → Int → Int} {cnt : Int → Int} (w0 : World) (hV : VAt w0 vV u pv ln pt cnt) (hpc : ∀ k, 0 ≤ k → k < u → 1 ≤ cnt k) :
    Calls Try.prog 99 [vV, .func (.func 100) #[] #[]].toArray w0 fun e w => ∃ v, e = .returned v ∧ vV = v ∧ Sat w0 w [] := by
  refine zenG Try.func99 Try.ntmps99 fun w hS => ?_
  refine zsr ?_
  refine zlv xas ?_
  refine zlz ?_
  refine zs2 ?_
  refine zlc (xc0 cl_96) (c_ixn2 (u := u) (pv := pv) (ln := ln) (pt := pt) (cnt := cnt) w (hV.below hS.below) hpc) ?_; rintro _ w ⟨rfl, hS'⟩
  replace hS := hS.cmp hS'; clear hS'
  refine zlv xas ?_
  refine zlt <| zsq <| zsr ?_
  refine zlv xmv ?_
  refine zlv (xkt xeql) ?_
  refine zlt <| zct <| zsr ?_
  refine zs2 ?_
  refine zlt <| zrt <| ztr <| zf1 ⟨_, rfl, ?_⟩
  exact ⟨rfl, hS⟩

end Go.Proofs.Ytopmifmfecfaaaa
