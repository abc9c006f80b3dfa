/- The walks of proper, Fraction and remainder, of gomory. -/
import Derived.Test.YtelfplepnodbgaaGc
import Derived.Test.YtelfplepnodbgaaW36
import Derived.Test.YtelfplepnodbgaaFg
namespace Go.Proofs.Ytelfplepnodbgaa
open Go Go.RowKit Go.Proofs.Gw
set_option linter.unusedVariables false

theorem cl_101 : calledT Try.prog 101 = true := by kernel_rfl
theorem cl_102 : calledT Try.prog 102 = true := by kernel_rfl
theorem cl_61 : calledT Try.prog 61 = true := by kernel_rfl
theorem el_141 : elemT Try.prog 141 = some (.nilFunc, 1, 8) := by kernel_rfl
theorem pl_141 : plainT Try.prog 141 = true := by kernel_rfl
theorem c_great {x : Int} (w0 : World) :
    Calls Try.prog 101 [.int .i64 x].toArray w0 fun e w => ∃ v, e = .returned v ∧ v = B (¬ (-1073741824 ≤ x ∧ x ≤ 1073741824)) ∧ Sat w0 w [] := by
  refine zenG Try.func101 Try.ntmps101 fun w hS => ?_
  refine zsq <| zrg ?_
  refine zlv xas ?_
  refine zln <| ztn <| zsq <| zrg ?_
  refine zlv xmv ?_
  refine zlv xlss ?_
  refine zlv xmv ?_
  refine zlb 5 ?_ ?_ <;> intro hc
  ·
   iterate 2 refine zlo ?_
   refine zlv xpt ?_
   refine zlv xas ?_
   refine zln <| ztn <| zrt <| zf1 ⟨_, rfl, ?_⟩
   exact ⟨true_B (by omega), hS⟩
  ·
   refine zlv xmv ?_
   refine zlv xgtr ?_
   refine zlv xpf ?_
   refine zlv xas ?_
   refine zln <| ztn <| zrt <| zf1 ⟨_, rfl, ?_⟩
   exact ⟨B_congr (by omega), hS⟩

theorem c_ixgrt {v : Value} {n : Int} {f : Int → Int} (w0 : World) (hR : Row w0 v 1 n (ints f)) :
    Calls Try.prog 93 [v, .func (.func 101) #[] #[]].toArray w0 fun e w => ∃ v, e = .returned v ∧ ∃ r : Int, v = .int .i64 r ∧ ((r = -1 ∧ ∀ k, 0 ≤ k → k < n → ¬ (¬ (-1073741824 ≤ f k ∧ f k ≤ 1073741824))) ∨ (0 ≤ r ∧ r < n ∧ (¬ (-1073741824 ≤ f r ∧ f r ≤ 1073741824)))) ∧ Sat w0 w [] := by
  have hn := hR.slh.n0; have hn1 := hR.slh.n1
  refine zenG Try.func93 Try.ntmps93 fun w hS => ?_
  refine zsq <| zrg ?_
  refine zlv xas ?_
  refine zln <| ztn <| zsq <| zsq <| zrg ?_
  refine zlv xmv ?_
  refine zlv (xln sl_22 hR.slh) ?_
  refine zlv xmv ?_
  refine zln <| ztn <| zbk <| zlp (fun mm M w => ∃ (i : Int), mm = ((n - i).toNat) ∧ (0 ≤ i) ∧ (i ≤ n) ∧ (∀ k, 0 ≤ k → k < i → ¬ (¬ (-1073741824 ≤ f k ∧ f k ≤ 1073741824))) ∧ M = [(0, v), (1, .func (.func 101) #[] #[]), (7, .int .i64 n), (8, .int .i64 i)] ∧ Sat w0 w []) ⟨0, rfl, (by omega), (by omega), ?_, rfl, hS⟩ ?_
  ·
   intro k h0 h1; omega
  ·
   clear hS w
   rintro mm M w ⟨i, rfl, h0, h1, hall, rfl, hS⟩
   refine zsq <| zrg ?_
   refine zlv xlss ?_
   refine zln <| ztn <| zsq ?_
   refine zcif ?_ ?_ <;> intro hc
   ·
    refine zsk <| ztn <| zsq <| zbk <| zsq <| zrg ?_
    refine zlv xmv ?_
    refine zlv xas ?_
    refine zln <| ztn <| zsq <| zrg ?_
    iterate 3 refine zlv xmv ?_
    refine zlv (xix (kk := i) sl_22 hR.slh) ?_
    refine zlv (xlr (u := .int .i64 (f i)) pl_3 (hR.below hS.below)) ?_
    refine zlc (xc0 cl_101) (c_great (x := (f i)) w) ?_; rintro _ w ⟨rfl, hS'⟩
    replace hS := hS.cmp hS'; clear hS'
    refine zln <| ztn ?_
    refine zcif ?_ ?_ <;> intro hc
    ·
     refine zsq <| zrg ?_
     refine zlv xmv ?_
     refine zlv xas ?_
     refine zln <| ztn <| zrt <| zbr <| ztr <| ztr <| zbr <| ztr <| zf1 ⟨_, rfl, ?_⟩
     exact ⟨i, rfl, .inr ⟨by omega, by omega, ‹¬ (-1073741824 ≤ f i ∧ f i ≤ 1073741824)›⟩, hS⟩
    ·
     refine zsk <| zbn <| ztn <| zrg ?_
     refine zlv (xadd (r := i + 1)) ?_
     refine zlv xmv ?_
     refine zln <| zlq ⟨i + 1, rfl, (by omega), (by omega), ?_, rfl, hS⟩
     ·
      intro k h0' h1'; rcases Int.lt_or_eq_of_le (show k ≤ i by omega) with hk | hk; exact hall k h0' hk; rw [hk]; assumption
   ·
    refine zxt <| ztx <| ztx <| zbh <| ztn <| zsq <| zrg ?_
    refine zlv xas ?_
    refine zln <| ztn <| zrt <| zf1 ⟨_, rfl, ?_⟩
    exact ⟨-1, rfl, .inl ⟨rfl, fun k h0 h1 => hall k h0 (by omega)⟩, hS⟩

theorem c_cogrt {v : Value} {n : Int} {f : Int → Int} (w0 : World) (hR : Row w0 v 1 n (ints f)) :
    Calls Try.prog 103 [v, .func (.func 101) #[] #[]].toArray w0 fun e w => ∃ v, e = .returned v ∧ v = B (∃ k, 0 ≤ k ∧ k < n ∧ (¬ (-1073741824 ≤ f k ∧ f k ≤ 1073741824))) ∧ Sat w0 w [] := by
  refine zenG Try.func103 Try.ntmps103 fun w hS => ?_
  refine zsq <| zrg ?_
  refine zlv xas ?_
  refine zln <| ztn <| zsq <| zrg ?_
  iterate 2 refine zlv xmv ?_
  refine zlc (xc0 cl_93) (c_ixgrt w (hR.below hS.below)) ?_; rintro _ w ⟨r1, rfl, hr1, hS'⟩
  replace hS := hS.cmp hS'; clear hS'
  refine zlv xgeq ?_
  refine zlv xas ?_
  refine zln <| ztn <| zrt <| zf1 ⟨_, rfl, ?_⟩
  exact ⟨B_congr (by
   rcases hr1 with ⟨h1, h2⟩ | ⟨h1, h2, h3⟩
   · exact ⟨fun h => by omega, fun ⟨k, h4, h5, h6⟩ => absurd h6 (h2 k h4 h5)⟩
   · exact ⟨fun _ => ⟨_, h1, h2, h3⟩, fun _ => h1⟩), hS⟩

theorem c_gwr {v : Value} {n q : Int} {f : Int → Int} {a1 a2 : Addr} (w0 : World) (hR : Row w0 v 1 n (ints f)) (hp1 : w0.cell? a1 = some (.int .i64 q)) (hq : 0 ≤ q ∧ q ≤ 100) (hp2 : w0.cell? a2 = some (.func (.func 101) #[] #[])) :
    Calls Try.prog 102 [v, .pointer (some a1), .pointer (some a2)].toArray w0 fun e w => ∃ v, e = .returned v ∧ v = B (¬ (n = q + 1 ∧ Btw f n 1073741824)) ∧ Sat w0 w [] := by
  have hn1 := hR.slh.n1
  refine zenG Try.func102 Try.ntmps102 fun w hS => ?_
  refine zsq <| zrg ?_
  refine zlv xas ?_
  refine zln <| ztn <| zsq <| zrg ?_
  refine zlv xmv ?_
  refine zlv (xln sl_22 hR.slh) ?_
  refine zlv (xlf pl_3 hp1 hS) ?_
  refine zlv (xadd (r := q + 1)) ?_
  refine zlv xneq ?_
  refine zlv xmv ?_
  refine zlb 10 ?_ ?_ <;> intro hc
  ·
   iterate 3 refine zlo ?_
   refine zlv xpt ?_
   refine zlv xas ?_
   refine zln <| ztn <| zrt <| zf1 ⟨_, rfl, ?_⟩
   exact ⟨true_B (by omega), hS⟩
  ·
   refine zlv xmv ?_
   refine zlv (xlf pl_141 hp2 hS) ?_
   refine zlc (xc0 cl_103) (c_cogrt (n := n) (f := f) w (hR.below hS.below)) ?_; rintro _ w ⟨rfl, hS'⟩
   replace hS := hS.cmp hS'; clear hS'
   refine zlv xpf ?_
   refine zlv xas ?_
   refine zln <| ztn <| zrt <| zf1 ⟨_, rfl, ?_⟩
   exact ⟨B_congr ⟨fun ⟨k, k0, k1, h⟩ hh => h (hh.2 k k0 k1), fun h => Classical.not_not.1 fun hx => h ⟨by omega, fun k k0 k1 => Classical.not_not.1 fun hk => hx ⟨k, k0, k1, hk⟩⟩⟩, hS⟩

theorem c_ixmg {v : Value} {n q : Int} {vv : Int → Value} {ln : Int → Int} {f : Int → Int → Int} {a1 a2 : Addr} (w0 : World) (hM : MAt w0 v n vv ln f) (hp1 : w0.cell? a1 = some (.int .i64 q)) (hq : 0 ≤ q ∧ q ≤ 100) (hp2 : w0.cell? a2 = some (.func (.func 101) #[] #[])) :
    Calls Try.prog 111 [v, .func (.func 102) #[] #[.pointer (some a1), .pointer (some a2)]].toArray w0 fun e w => ∃ v, e = .returned v ∧ ∃ r : Int, v = .int .i64 r ∧ ((r = -1 ∧ ∀ k, 0 ≤ k → k < n → ¬ (¬ ((ln k) = q + 1 ∧ Btw (f k) (ln k) 1073741824))) ∨ (0 ≤ r ∧ r < n ∧ (¬ ((ln r) = q + 1 ∧ Btw (f r) (ln r) 1073741824)))) ∧ Sat w0 w [] := by
  have hn := hM.row.slh.n0; have hn1 := hM.row.slh.n1
  refine zenG Try.func111 Try.ntmps111 fun w hS => ?_
  refine zsq <| zrg ?_
  refine zlv xas ?_
  refine zln <| ztn <| zsq <| zsq <| zrg ?_
  refine zlv xmv ?_
  refine zlv (xln sl_23 hM.row.slh) ?_
  refine zlv xmv ?_
  refine zln <| ztn <| zbk <| zlp (fun mm M w => ∃ (i : Int), mm = ((n - i).toNat) ∧ (0 ≤ i) ∧ (i ≤ n) ∧ (∀ k, 0 ≤ k → k < i → ¬ (¬ ((ln k) = q + 1 ∧ Btw (f k) (ln k) 1073741824))) ∧ M = [(0, v), (1, .func (.func 102) #[] #[.pointer (some a1), .pointer (some a2)]), (7, .int .i64 n), (8, .int .i64 i)] ∧ Sat w0 w []) ⟨0, rfl, (by omega), (by omega), ?_, rfl, hS⟩ ?_
  ·
   intro k h0 h1; omega
  ·
   clear hS w
   rintro mm M w ⟨i, rfl, h0, h1, hall, rfl, hS⟩
   refine zsq <| zrg ?_
   refine zlv xlss ?_
   refine zln <| ztn <| zsq ?_
   refine zcif ?_ ?_ <;> intro hc
   ·
    refine zsk <| ztn <| zsq <| zbk <| zsq <| zrg ?_
    refine zlv xmv ?_
    refine zlv xas ?_
    refine zln <| ztn <| zsq <| zrg ?_
    iterate 3 refine zlv xmv ?_
    refine zlv (xix (kk := i) sl_23 hM.row.slh) ?_
    refine zlv (xlr (u := (vv i)) pl_22 (hM.row.below hS.below)) ?_
    refine zlc (xcc (vs := [_]) cl_102) (c_gwr (n := (ln i)) (q := q) (f := (f i)) w ((hM.p i (by omega) (by omega)).below hS.below) (hS.ref hp1) hq (hS.ref hp2)) ?_; rintro _ w ⟨rfl, hS'⟩
    replace hS := hS.cmp hS'; clear hS'
    refine zln <| ztn ?_
    refine zcif ?_ ?_ <;> intro hc
    ·
     refine zsq <| zrg ?_
     refine zlv xmv ?_
     refine zlv xas ?_
     refine zln <| ztn <| zrt <| zbr <| ztr <| ztr <| zbr <| ztr <| zf1 ⟨_, rfl, ?_⟩
     exact ⟨i, rfl, .inr ⟨by omega, by omega, ‹¬ ((ln i) = q + 1 ∧ Btw (f i) (ln i) 1073741824)›⟩, hS⟩
    ·
     refine zsk <| zbn <| ztn <| zrg ?_
     refine zlv (xadd (r := i + 1)) ?_
     refine zlv xmv ?_
     refine zln <| zlq ⟨i + 1, rfl, (by omega), (by omega), ?_, rfl, hS⟩
     ·
      intro k h0' h1'; rcases Int.lt_or_eq_of_le (show k ≤ i by omega) with hk | hk; exact hall k h0' hk; rw [hk]; assumption
   ·
    refine zxt <| ztx <| ztx <| zbh <| ztn <| zsq <| zrg ?_
    refine zlv xas ?_
    refine zln <| ztn <| zrt <| zf1 ⟨_, rfl, ?_⟩
    exact ⟨-1, rfl, .inl ⟨rfl, fun k h0 h1 => hall k h0 (by omega)⟩, hS⟩

theorem c_comg {v : Value} {n q : Int} {vv : Int → Value} {ln : Int → Int} {f : Int → Int → Int} {a1 a2 : Addr} (w0 : World) (hM : MAt w0 v n vv ln f) (hp1 : w0.cell? a1 = some (.int .i64 q)) (hq : 0 ≤ q ∧ q ≤ 100) (hp2 : w0.cell? a2 = some (.func (.func 101) #[] #[])) :
    Calls Try.prog 78 [v, .func (.func 102) #[] #[.pointer (some a1), .pointer (some a2)]].toArray w0 fun e w => ∃ v, e = .returned v ∧ v = B (∃ k, 0 ≤ k ∧ k < n ∧ (¬ ((ln k) = q + 1 ∧ Btw (f k) (ln k) 1073741824))) ∧ Sat w0 w [] := by
  refine zenG Try.func78 Try.ntmps78 fun w hS => ?_
  refine zsq <| zrg ?_
  refine zlv xas ?_
  refine zln <| ztn <| zsq <| zrg ?_
  iterate 2 refine zlv xmv ?_
  refine zlc (xc0 cl_111) (c_ixmg w (hM.below hS.below) (hS.ref hp1) hq (hS.ref hp2)) ?_; rintro _ w ⟨r1, rfl, hr1, hS'⟩
  replace hS := hS.cmp hS'; clear hS'
  refine zlv xgeq ?_
  refine zlv xas ?_
  refine zln <| ztn <| zrt <| zf1 ⟨_, rfl, ?_⟩
  exact ⟨B_congr (by
   rcases hr1 with ⟨h1, h2⟩ | ⟨h1, h2, h3⟩
   · exact ⟨fun h => by omega, fun ⟨k, h4, h5, h6⟩ => absurd h6 (h2 k h4 h5)⟩
   · exact ⟨fun _ => ⟨_, h1, h2, h3⟩, fun _ => h1⟩), hS⟩

set_option maxRecDepth 20000 in
theorem c_gproper {vB vF vC : Value} {vv : Int → Value} {t : Tb} (w0 : World) (hT : TAt w0 vB vF vC vv t) :
    Calls Try.prog 61 [.agg #[.int .i64 t.vars, .int .i64 t.den, vB, vF, vC]].toArray w0 fun e w => ∃ v, e = .returned v ∧ v = B (TPrp t) ∧ Sat w0 w [] := by
  have hn := hT.F.slh.n0; have hn1 := hT.F.slh.n1; have hb := hT.B.slh.n0; have hb1 := hT.B.slh.n1; have hc0 := hT.C.row.slh.n0; have hc1 := hT.C.row.slh.n1
  refine zenG Try.func61 Try.ntmps61 fun w hS => ?_
  refine zsq <| zrg ?_
  refine zla (xbx (cs := [_, _, _, _, _]) hS) ?_; rintro _ w ⟨g1, rfl, hS⟩
  replace hS : Sat w0 w [.blk _ [_, _, _, _, _]] := hS
  refine zlv xas ?_
  refine zln <| ztn <| zsq ?_
  refine zdst [0] [0] 7 mx_ hS ?_; clear hS; intro w hS
  refine zdv 0 (fun _ => (xfb 3 fd_28_3)) ?_
  refine zdla 1 (fun w hS => (xlb 0 pl_22 hS)) ?_
  refine zdv 2 (fun _ => (xln sl_22 hT.F.slh)) ?_
  refine zdv 3 (fun _ => (xfb 2 fd_28_2)) ?_
  refine zdla 4 (fun w hS => (xlb 0 pl_22 hS)) ?_
  refine zdv 5 (fun _ => (xln sl_22 hT.B.slh)) ?_
  refine zda 6 (xal (cs := [_]) el_3 hS) ?_; rintro _ w ⟨g2, rfl, hS⟩
  replace hS : Sat w0 w [.blk _ [_, _, _, _, _], .blk _ [_]] := hS
  refine ⟨⟨fun _ => hS.pk [0], hS.pk [0]⟩, ?_⟩
  refine zde 7 (xsb 1 pl_3 hS) ?_; clear hS; rintro w hS
  replace hS : Sat w0 w [.blk _ [_, _, _, _, _], .blk _ [_]] := hS
  refine ⟨⟨fun h => absurd h (by decide), hS.pk [0]⟩, ?_⟩
  refine zdv 8 (fun _ => xas) ?_
  refine zdd <| ztn <| zsq <| zsq <| zrg ?_
  refine zlv (xlb 1 pl_3 hS) ?_
  refine zlv xlss ?_
  refine zlv xmv ?_
  refine zlb 16 ?_ ?_ <;> intro hc
  ·
   iterate 2 refine zlo ?_
   refine zlv xpt ?_
   refine zlv xmv ?_
   iterate 2 refine zlo ?_
   refine zlv xpt ?_
   refine zlv xmv ?_
   iterate 4 refine zlo ?_
   refine zlv xpt ?_
   refine zlv xmv ?_
   iterate 3 refine zlo ?_
   refine zlv xpt ?_
   refine zlv xmv ?_
   iterate 3 refine zlo ?_
   refine zlv xpt ?_
   refine zlv xmv ?_
   iterate 6 refine zlo ?_
   refine zlv xpt ?_
   refine zln <| ztn <| zct <| zsq <| zrg ?_
   refine zlv xas ?_
   refine zln <| ztn <| zrt <| ztr <| zf1 ⟨_, rfl, ?_⟩
   exact ⟨false_B (by intro hp; have b1 := hp.n1; have b2 := hp.n2; have b3 := hp.m2; have b4 := hp.v; have b5 := hp.d1; have b6 := hp.d2; have b7 := hp.c; first | omega | (have hq1 := (perm_sorted (by omega) hsosgq2).2 ((perm_swap (by omega) (by omega) hp.perm).congr fun k k0 k1 => (catN2 t.nb t.nf t.B t.F k0).symm) i (by omega) (by omega); omega)), hS.nl⟩
  ·
   refine zlv (xlb 1 pl_3 hS) ?_
   refine zlv xgtr ?_
   refine zlv xpf ?_
   refine zlv xmv ?_
   refine zlb 20 ?_ ?_ <;> intro hc
   ·
    iterate 2 refine zlo ?_
    refine zlv xpt ?_
    refine zlv xmv ?_
    iterate 4 refine zlo ?_
    refine zlv xpt ?_
    refine zlv xmv ?_
    iterate 3 refine zlo ?_
    refine zlv xpt ?_
    refine zlv xmv ?_
    iterate 3 refine zlo ?_
    refine zlv xpt ?_
    refine zlv xmv ?_
    iterate 6 refine zlo ?_
    refine zlv xpt ?_
    refine zln <| ztn <| zct <| zsq <| zrg ?_
    refine zlv xas ?_
    refine zln <| ztn <| zrt <| ztr <| zf1 ⟨_, rfl, ?_⟩
    exact ⟨false_B (by intro hp; have b1 := hp.n1; have b2 := hp.n2; have b3 := hp.m2; have b4 := hp.v; have b5 := hp.d1; have b6 := hp.d2; have b7 := hp.c; first | omega | (have hq1 := (perm_sorted (by omega) hsosgq2).2 ((perm_swap (by omega) (by omega) hp.perm).congr fun k k0 k1 => (catN2 t.nb t.nf t.B t.F k0).symm) i (by omega) (by omega); omega)), hS.nl⟩
   ·
    refine zlv xmv ?_
    refine zlv xgtr ?_
    refine zlv xpf ?_
    refine zlv xmv ?_
    refine zlb 24 ?_ ?_ <;> intro hc
    ·
     iterate 4 refine zlo ?_
     refine zlv xpt ?_
     refine zlv xmv ?_
     iterate 3 refine zlo ?_
     refine zlv xpt ?_
     refine zlv xmv ?_
     iterate 3 refine zlo ?_
     refine zlv xpt ?_
     refine zlv xmv ?_
     iterate 6 refine zlo ?_
     refine zlv xpt ?_
     refine zln <| ztn <| zct <| zsq <| zrg ?_
     refine zlv xas ?_
     refine zln <| ztn <| zrt <| ztr <| zf1 ⟨_, rfl, ?_⟩
     exact ⟨false_B (by intro hp; have b1 := hp.n1; have b2 := hp.n2; have b3 := hp.m2; have b4 := hp.v; have b5 := hp.d1; have b6 := hp.d2; have b7 := hp.c; first | omega | (have hq1 := (perm_sorted (by omega) hsosgq2).2 ((perm_swap (by omega) (by omega) hp.perm).congr fun k k0 k1 => (catN2 t.nb t.nf t.B t.F k0).symm) i (by omega) (by omega); omega)), hS.nl⟩
    ·
     refine zlv (xfb 0 fd_28_0) ?_
     refine zlv (xlb 0 pl_3 hS) ?_
     refine zlv (xlb 1 pl_3 hS) ?_
     refine zlv xneq ?_
     refine zlv xpf ?_
     refine zlv xmv ?_
     refine zlb 30 ?_ ?_ <;> intro hc
     ·
      iterate 3 refine zlo ?_
      refine zlv xpt ?_
      refine zlv xmv ?_
      iterate 3 refine zlo ?_
      refine zlv xpt ?_
      refine zlv xmv ?_
      iterate 6 refine zlo ?_
      refine zlv xpt ?_
      refine zln <| ztn <| zct <| zsq <| zrg ?_
      refine zlv xas ?_
      refine zln <| ztn <| zrt <| ztr <| zf1 ⟨_, rfl, ?_⟩
      exact ⟨false_B (by intro hp; have b1 := hp.n1; have b2 := hp.n2; have b3 := hp.m2; have b4 := hp.v; have b5 := hp.d1; have b6 := hp.d2; have b7 := hp.c; first | omega | (have hq1 := (perm_sorted (by omega) hsosgq2).2 ((perm_swap (by omega) (by omega) hp.perm).congr fun k k0 k1 => (catN2 t.nb t.nf t.B t.F k0).symm) i (by omega) (by omega); omega)), hS.nl⟩
     ·
      refine zlv (xfb 1 fd_28_1) ?_
      refine zlv (xlb 0 pl_3 hS) ?_
      refine zlv xlss ?_
      refine zlv xpf ?_
      refine zlv xmv ?_
      refine zlb 35 ?_ ?_ <;> intro hc
      ·
       iterate 3 refine zlo ?_
       refine zlv xpt ?_
       refine zlv xmv ?_
       iterate 6 refine zlo ?_
       refine zlv xpt ?_
       refine zln <| ztn <| zct <| zsq <| zrg ?_
       refine zlv xas ?_
       refine zln <| ztn <| zrt <| ztr <| zf1 ⟨_, rfl, ?_⟩
       exact ⟨false_B (by intro hp; have b1 := hp.n1; have b2 := hp.n2; have b3 := hp.m2; have b4 := hp.v; have b5 := hp.d1; have b6 := hp.d2; have b7 := hp.c; first | omega | (have hq1 := (perm_sorted (by omega) hsosgq2).2 ((perm_swap (by omega) (by omega) hp.perm).congr fun k k0 k1 => (catN2 t.nb t.nf t.B t.F k0).symm) i (by omega) (by omega); omega)), hS.nl⟩
      ·
       refine zlv (xfb 1 fd_28_1) ?_
       refine zlv (xlb 0 pl_3 hS) ?_
       refine zlv xgtr ?_
       refine zlv xpf ?_
       refine zlv xmv ?_
       refine zlb 40 ?_ ?_ <;> intro hc
       ·
        iterate 6 refine zlo ?_
        refine zlv xpt ?_
        refine zln <| ztn <| zct <| zsq <| zrg ?_
        refine zlv xas ?_
        refine zln <| ztn <| zrt <| ztr <| zf1 ⟨_, rfl, ?_⟩
        exact ⟨false_B (by intro hp; have b1 := hp.n1; have b2 := hp.n2; have b3 := hp.m2; have b4 := hp.v; have b5 := hp.d1; have b6 := hp.d2; have b7 := hp.c; first | omega | (have hq1 := (perm_sorted (by omega) hsosgq2).2 ((perm_swap (by omega) (by omega) hp.perm).congr fun k k0 k1 => (catN2 t.nb t.nf t.B t.F k0).symm) i (by omega) (by omega); omega)), hS.nl⟩
       ·
        refine zlv (xfb 4 fd_28_4) ?_
        refine zlv (xlb 0 pl_23 hS) ?_
        refine zlv (xln sl_23 hT.C.row.slh) ?_
        refine zlv xmv ?_
        refine zlv (xadd (r := t.nb + 1)) ?_
        refine zlv xneq ?_
        refine zlv xpf ?_
        refine zln <| ztn ?_
        refine zcif ?_ ?_ <;> intro hc
        ·
         refine zsq <| zrg ?_
         refine zlv xas ?_
         refine zln <| ztn <| zrt <| ztr <| zf1 ⟨_, rfl, ?_⟩
         exact ⟨false_B (by intro hp; have b1 := hp.n1; have b2 := hp.n2; have b3 := hp.m2; have b4 := hp.v; have b5 := hp.d1; have b6 := hp.d2; have b7 := hp.c; first | omega | (have hq1 := (perm_sorted (by omega) hsosgq2).2 ((perm_swap (by omega) (by omega) hp.perm).congr fun k k0 k1 => (catN2 t.nb t.nf t.B t.F k0).symm) i (by omega) (by omega); omega)), hS.nl⟩
        ·
         refine zsk <| ztn <| zsq <| zsq <| zrg ?_
         refine zlv (xfb 2 fd_28_2) ?_
         refine zlv (xlb 0 pl_22 hS) ?_
         refine zlv (xfb 3 fd_28_3) ?_
         refine zlv (xlb 0 pl_22 hS) ?_
         refine zla (xli (n := 2) (len := 2) (pv := [(0, vB), (1, vF)]) (cs := [vB, vF]) (c := (pair2 vB vF)) sl_23 el_22 hS (hf := by obtain ⟨_, _, _, _, rfl, _⟩ := hT.B.slh; obtain ⟨_, _, _, _, rfl, _⟩ := hT.F.slh; kernel_rfl)) ?_; rintro v1 w ⟨hS, hv1⟩
         replace hS : Sat w0 w [.blk _ [_, _, _, _, _], .blk _ [_], _] := hS
         have hna := nat2 (w := w) (a := vB) (b := vF) (n := t.nb) (m := t.nf) (f := t.B) (g := t.F) (hS.rowN 2 rfl) (hT.B.below hS.below) (hT.F.below hS.below)
         have htt : ∀ k : Int, 0 ≤ k → k ≤ 2 → tot (pair2 t.nb t.nf) k.toNat ≤ 100000 := fun k k0 k1 => by
           have : k = 0 ∨ k = 1 ∨ k = 2 := by omega
           rcases this with rfl | rfl | rfl
           · simp [tot]
           · simp [tot, pair2]; omega
           · have e2 := tot2 t.nb t.nf; rw [show (2 : Int).toNat = 2 from rfl, e2]; omega
         refine zlc (xc0 cl_100) (c_concat w hna htt) ?_; rintro vq1 w ⟨_, rfl, hslq1, hS'⟩
         rw [show (2 : Int).toNat = 2 from rfl, tot2] at hslq1 hS'
         replace hS : Sat w0 w [.blk g1 [.int .i64 t.vars, .int .i64 t.den, vB, vF, vC], .blk g2 [.int .i64 t.nf], .own v1 1 22 2 (pair2 vB vF), .own vq1 1 3 (t.nb + t.nf) (ints (catN (pair2 t.nb t.nf) (pair2 t.B t.F) 2))] := hS.comp hS'
         clear hS'
         refine zlc (xc0 cl_99) (c_values (n := (t.nb + t.nf)) w hslq1) ?_; rintro _ w ⟨gv1, rfl, hS'⟩
         replace hS : Sat w0 w [.blk g1 [.int .i64 t.vars, .int .i64 t.den, vB, vF, vC], .blk g2 [.int .i64 t.nf], .own v1 1 22 2 (pair2 vB vF), .own vq1 1 3 (t.nb + t.nf) (ints (catN (pair2 t.nb t.nf) (pair2 t.B t.F) 2)), .blk gv1 [vq1]] := hS.comp hS'; clear hS'
         refine zlc (xc0 cl_98) (c_sorted (n := (t.nb + t.nf)) (f := (catN (pair2 t.nb t.nf) (pair2 t.B t.F) 2)) w (hS.cellN 4 rfl rfl) (hS.holds _ (List.mem_of_getElem? (i := 3) rfl)) (by omega)) ?_; rintro vq2 w ⟨_, sgq2, rfl, hslq2, hsosgq2, hS'⟩
         replace hS : Sat w0 w [.blk g1 [.int .i64 t.vars, .int .i64 t.den, vB, vF, vC], .blk g2 [.int .i64 t.nf], .own v1 1 22 2 (pair2 vB vF), .own vq1 1 3 (t.nb + t.nf) (ints (catN (pair2 t.nb t.nf) (pair2 t.B t.F) 2)), .blk gv1 [vq1], .own vq2 1 3 (t.nb + t.nf) (ints sgq2)] := hS.comp hS'; clear hS'
         refine zlv (xln sl_22 hslq2) ?_
         refine zlv xmv ?_
         refine zln <| ztn <| zbk <| zlp (fun mm M w => ∃ (i : Int), mm = ((t.nb + t.nf - i).toNat) ∧ (0 ≤ i) ∧ (i ≤ t.nb + t.nf) ∧ (∀ k, 0 ≤ k → k < i → sgq2 k = k) ∧ M = [(1, .pointer (some ⟨g1, 0, none⟩)), (3, .pointer (some ⟨g2, 0, none⟩)), (55, vq2), (56, .int .i64 (t.nb + t.nf)), (57, .int .i64 i)] ∧ Sat w0 w [.blk g1 [.int .i64 t.vars, .int .i64 t.den, vB, vF, vC], .blk g2 [.int .i64 t.nf], .own v1 1 22 2 (pair2 vB vF), .own vq1 1 3 (t.nb + t.nf) (ints (catN (pair2 t.nb t.nf) (pair2 t.B t.F) 2)), .blk gv1 [vq1], .own vq2 1 3 (t.nb + t.nf) (ints sgq2)]) ⟨0, rfl, (by omega), (by omega), ?_, rfl, hS⟩ ?_
         ·
          intro k h0 h1; omega
         ·
          clear hS w
          rintro mm M w ⟨i, rfl, h0, h1, hall, rfl, hS⟩
          refine zsq <| zrg ?_
          refine zlv xlss ?_
          refine zln <| ztn <| zsq ?_
          refine zcif ?_ ?_ <;> intro hc
          ·
           refine zsk <| ztn <| zsq <| zbk <| zsq <| zrg ?_
           refine zlv xmv ?_
           refine zlv (xix (kk := i) sl_22 hslq2) ?_
           refine zlv (xlr (u := .int .i64 (sgq2 i)) pl_3 (hS.rowN 5 rfl)) ?_
           iterate 2 refine zlv xas ?_
           refine zln <| ztn <| zsq <| zrg ?_
           iterate 2 refine zlv xmv ?_
           refine zlv xneq ?_
           refine zln <| ztn ?_
           refine zcif ?_ ?_ <;> intro hc
           ·
            refine zsq <| zrg ?_
            refine zlv xas ?_
            refine zln <| ztn <| zrt <| zbr <| ztr <| ztr <| zbr <| ztr <| zf1 ⟨_, rfl, ?_⟩
            exact ⟨false_B (by intro hp; have b1 := hp.n1; have b2 := hp.n2; have b3 := hp.m2; have b4 := hp.v; have b5 := hp.d1; have b6 := hp.d2; have b7 := hp.c; first | omega | (have hq1 := (perm_sorted (by omega) hsosgq2).2 ((perm_swap (by omega) (by omega) hp.perm).congr fun k k0 k1 => (catN2 t.nb t.nf t.B t.F k0).symm) i (by omega) (by omega); omega)), hS.nl⟩
           ·
            refine zsk <| zbn <| ztn <| zrg ?_
            refine zlv (xadd (r := i + 1)) ?_
            refine zlv xmv ?_
            refine zln <| zlq ⟨i + 1, rfl, (by omega), (by omega), ?_, rfl, hS⟩
            ·
             intro k h0' h1'; rcases Int.lt_or_eq_of_le (show k ≤ i by omega) with hk | hk; exact hall k h0' hk; rw [hk]; omega
          ·
           refine zxt <| ztx <| ztx <| zbh <| ztn <| zsq <| zrg ?_
           refine zla (xal (cs := [_]) el_141 hS) ?_; rintro _ w ⟨g3, rfl, hS⟩
           replace hS : Sat w0 w [.blk _ [_, _, _, _, _], .blk _ [_], _, _, .blk _ [_], _, .blk _ [_]] := hS
           refine zle (xsb 6 pl_141 hS) ?_; clear hS; rintro w hS
           replace hS : Sat w0 w [.blk _ [_, _, _, _, _], .blk _ [_], _, _, .blk _ [_], _, .blk _ [_]] := hS
           refine zln <| ztn <| zsq <| zrg ?_
           refine zlv (xfb 4 fd_28_4) ?_
           refine zlv (xlb 0 pl_23 hS) ?_
           refine zlv xmf ?_
           refine zlc (xc0 cl_78) (c_comg (n := t.nc) (q := t.nf) (vv := vv) (ln := t.ln) (f := t.C) w (hT.C.below hS.below) (hS.cellN 1 rfl rfl) (by omega) (hS.cellN 6 rfl rfl)) ?_; rintro _ w ⟨rfl, hS'⟩
           replace hS := hS.cmp hS'; clear hS'
           refine zlv xnot ?_
           refine zlv xas ?_
           refine zln <| ztn <| zrt <| zf1 ⟨_, rfl, ?_⟩
           refine ⟨B_congr ⟨fun hx => ?_, fun hp hx => ?_⟩, hS.nl⟩
           · refine ⟨by omega, by omega, by omega, by omega, by omega, by omega, by omega, perm_swap (by omega) (by omega) (((perm_sorted (by omega) hsosgq2).1 fun k k0 k1 => hall k k0 (by omega)).congr fun k k0 k1 => catN2 t.nb t.nf t.B t.F k0), fun k k0 k1 => ?_⟩
             have hy := Classical.not_not.1 fun hh => hx ⟨k, k0, k1, hh⟩
             exact ⟨hy.1, hy.2⟩
           · obtain ⟨k, k0, k1, hh⟩ := hx
             have hr := hp.rows k k0 k1
             exact hh ⟨hr.1, hr.2⟩

set_option maxRecDepth 20000 in
theorem c_frac {vB vF vC : Value} {vv : Int → Value} {t : Tb} (w0 : World) (hT : TAt w0 vB vF vC vv t) :
    Calls Try.prog 16 [.agg #[.int .i64 t.vars, .int .i64 t.den, vB, vF, vC]].toArray w0 fun e w => ∃ v, e = .returned v ∧ ∃ (r : Int) (ok : Prop) (e : Int), v = .tuple #[.int .i64 r, B ok, .int .i64 e] ∧ FracR t r ok e ∧ Sat w0 w [] := by
  have hn := hT.F.slh.n0; have hn1 := hT.F.slh.n1; have hb := hT.B.slh.n0; have hb1 := hT.B.slh.n1; have hc0 := hT.C.row.slh.n0; have hc1 := hT.C.row.slh.n1
  refine zenG Try.func16 Try.ntmps16 fun w hS => ?_
  refine zsq <| zrg ?_
  refine zla (xbx (cs := [_, _, _, _, _]) hS) ?_; rintro _ w ⟨g1, rfl, hS⟩
  replace hS : Sat w0 w [.blk _ [_, _, _, _, _]] := hS
  iterate 3 refine zlv xas ?_
  refine zln <| ztn <| zsq <| zsq <| zrg ?_
  refine zlv (xls 0 st_28 hS) ?_
  refine zlc (xc0 cl_61) (c_gproper (t := t) w (hT.below hS.below)) ?_; rintro _ w ⟨rfl, hS'⟩
  replace hS := hS.cmp hS'; clear hS'
  refine zlv xnot ?_
  refine zln <| ztn ?_
  refine zcif ?_ ?_ <;> intro hc
  ·
   refine zsq <| zrg ?_
   iterate 3 refine zlv xas ?_
   refine zln <| ztn <| zrt <| ztr <| zf3 ⟨_, rfl, ?_⟩
   exact ⟨0, False, 1, by rw [B_false not_false], .inl ⟨by assumption, rfl, not_false, rfl⟩, hS.nl⟩
  ·
   refine zsk <| ztn <| zsq <| zrg ?_
   refine zlv xas ?_
   refine zln <| ztn <| zsq <| zsq <| zrg ?_
   refine zlv (xfb 2 fd_28_2) ?_
   have hp : TPrp t := by first | assumption | exact Classical.not_not.1 ‹¬ ¬ (TPrp t)›
   have b1 := hp.n1
   have b2 := hp.n2
   have b3 := hp.m2
   have b4 := hp.v
   have b5 := hp.d1
   have b6 := hp.d2
   have b7 := hp.c
   refine zlv (xlb 0 pl_22 hS) ?_
   refine zlv (xln sl_22 hT.B.slh) ?_
   refine zlv xmv ?_
   refine zln <| ztn <| zbk <| zlp (fun mm M w => ∃ (r : Int) (i : Int), mm = ((t.nb - i).toNat) ∧ (0 ≤ i) ∧ (i ≤ t.nb) ∧ (r = gfr t i.toNat) ∧ M = [(1, .pointer (some ⟨g1, 0, none⟩)), (2, .int .i64 r), (3, .bool false), (4, .int .i64 0), (11, vB), (12, .int .i64 t.nb), (13, .int .i64 i)] ∧ Sat w0 w [.blk g1 [.int .i64 t.vars, .int .i64 t.den, vB, vF, vC]]) ⟨(-1), 0, rfl, (by omega), (by omega), ?_, rfl, hS⟩ ?_
   ·
    rfl
   ·
    clear hS w
    rintro mm M w ⟨r, i, rfl, h0, h1, hr, rfl, hS⟩
    have hrr := gfr_rng t i.toNat; rw [← hr] at hrr
    refine zsq <| zrg ?_
    refine zlv xlss ?_
    refine zln <| ztn <| zsq ?_
    refine zcif ?_ ?_ <;> intro hc
    ·
     refine zsk <| ztn <| zsq <| zbk <| zsq <| zrg ?_
     refine zlv xmv ?_
     refine zlv (xix (kk := i) sl_22 hT.B.slh) ?_
     refine zlv (xlr (u := .int .i64 (t.B i)) pl_3 (hT.B.below hS.below)) ?_
     iterate 2 refine zlv xas ?_
     refine zln <| ztn <| zsq ?_
     refine zdst [0] [0] 1000 mx_ hS ?_; clear hS; intro w hS
     refine zdv 0 (fun _ => xmv) ?_
     refine zdv 1 (fun _ => (xfb 0 fd_28_0)) ?_
     refine zdla 2 (fun w hS => (xlb 0 pl_3 hS)) ?_
     refine zdv 3 (fun _ => xlss) ?_
     refine zdv 4 (fun _ => xmv) ?_
     refine zdb 22 ?_ ?_ <;> intro hc
     ·
      refine zdv 5 (fun _ => (xfb 4 fd_28_4)) ?_
      refine zdla 6 (fun w hS => (xlb 0 pl_23 hS)) ?_
      have hlen := hp.len (i := i + 1) (by omega) (by omega)
      refine zdv 7 (fun _ => xmv) ?_
      refine zdv 8 (fun _ => (xadd (r := i + 1))) ?_
      refine zdv 9 (fun _ => (xix (kk := i + 1) sl_23 hT.C.row.slh)) ?_
      refine zdla 10 (fun w hS => (xlr (u := (vv (i + 1))) pl_22 (hT.C.row.below hS.below))) ?_
      refine zdv 11 (fun _ => (xix (kk := 0) sl_22 (hT.C.p (i + 1) (by omega) (by omega)).slh)) ?_
      refine zdla 12 (fun w hS => (xlr (u := .int .i64 ((t.C (i + 1)) 0)) pl_3 ((hT.C.p (i + 1) (by omega) (by omega)).below hS.below))) ?_
      refine zdv 13 (fun _ => (xfb 1 fd_28_1)) ?_
      refine zdla 14 (fun w hS => (xlb 0 pl_3 hS)) ?_
      refine zdv 15 (fun _ => (xrem (r := (Int.tmod ((t.C (i + 1)) 0) t.den)))) ?_
      refine zdv 16 (fun _ => xneq) ?_
      refine zdv 17 (fun _ => xpt) ?_
      refine zdv 18 (fun _ => xmv) ?_
      refine zdb 36 ?_ ?_ <;> intro hc
      ·
       refine zdv 19 (fun _ => xmv) ?_
       refine zdv 20 (fun _ => xlss) ?_
       refine zdv 21 (fun _ => xmv) ?_
       refine zdb 39 ?_ ?_ <;> intro hc
       ·
        refine zdof 22 ?_
        refine zdof 23 ?_
        refine zdof 24 ?_
        refine zdof 25 ?_
        refine zdof 26 ?_
        refine zdof 27 ?_
        refine zdof 28 ?_
        refine zdv 29 (fun _ => xpt) ?_
        refine zdv 30 (fun _ => xpt) ?_
        refine zdd <| ztn <| zct <| zrg ?_
        refine zlv xmv ?_
        refine zlv xas ?_
        refine zln <| zbn <| ztn <| zrg ?_
        refine zlv (xadd (r := i + 1)) ?_
        refine zlv xmv ?_
        refine zln <| zlq ⟨i, i + 1, rfl, (by omega), (by omega), ?_, rfl, hS⟩
        ·
         rw [gfr_next t h0, ← hr]; split <;> omega
       ·
        refine zdv 22 (fun _ => xmv) ?_
        refine zdv 23 (fun _ => (xfb 2 fd_28_2)) ?_
        refine zdla 24 (fun w hS => (xlb 0 pl_22 hS)) ?_
        refine zdv 25 (fun _ => xmv) ?_
        refine zdv 26 (fun _ => (xix (kk := r) sl_22 hT.B.slh)) ?_
        refine zdla 27 (fun w hS => (xlr (u := .int .i64 (t.B r)) pl_3 (hT.B.below hS.below))) ?_
        refine zdv 28 (fun _ => xlss) ?_
        refine zdv 29 (fun _ => xpf) ?_
        refine zdv 30 (fun _ => xpt) ?_
        refine zdd <| ztn ?_
        refine zcif ?_ ?_ <;> intro hc
        ·
         refine zrg ?_
         refine zlv xmv ?_
         refine zlv xas ?_
         refine zln <| zbn <| ztn <| zrg ?_
         refine zlv (xadd (r := i + 1)) ?_
         refine zlv xmv ?_
         refine zln <| zlq ⟨i, i + 1, rfl, (by omega), (by omega), ?_, rfl, hS⟩
         ·
          rw [gfr_next t h0, ← hr]; split <;> omega
        ·
         refine zsk <| zbn <| ztn <| zrg ?_
         refine zlv (xadd (r := i + 1)) ?_
         refine zlv xmv ?_
         refine zln <| zlq ⟨r, i + 1, rfl, (by omega), (by omega), ?_, rfl, hS⟩
         ·
          rw [gfr_next t h0, ← hr]; split <;> omega
      ·
       refine zdof 19 ?_
       refine zdof 20 ?_
       refine zdof 21 ?_
       refine zdof 22 ?_
       refine zdof 23 ?_
       refine zdof 24 ?_
       refine zdof 25 ?_
       refine zdof 26 ?_
       refine zdof 27 ?_
       refine zdof 28 ?_
       refine zdof 29 ?_
       refine zdv 30 (fun _ => xpf) ?_
       refine zdd <| ztn <| zcf <| zsk <| zbn <| ztn <| zrg ?_
       refine zlv (xadd (r := i + 1)) ?_
       refine zlv xmv ?_
       refine zln <| zlq ⟨r, i + 1, rfl, (by omega), (by omega), ?_, rfl, hS⟩
       ·
        rw [gfr_next t h0, ← hr]; split <;> omega
     ·
      refine zdof 5 ?_
      refine zdof 6 ?_
      refine zdof 7 ?_
      refine zdof 8 ?_
      refine zdof 9 ?_
      refine zdof 10 ?_
      refine zdof 11 ?_
      refine zdof 12 ?_
      refine zdof 13 ?_
      refine zdof 14 ?_
      refine zdof 15 ?_
      refine zdof 16 ?_
      refine zdv 17 (fun _ => xpf) ?_
      refine zdv 18 (fun _ => xmv) ?_
      refine zdof 19 ?_
      refine zdof 20 ?_
      refine zdof 21 ?_
      refine zdof 22 ?_
      refine zdof 23 ?_
      refine zdof 24 ?_
      refine zdof 25 ?_
      refine zdof 26 ?_
      refine zdof 27 ?_
      refine zdof 28 ?_
      refine zdof 29 ?_
      refine zdv 30 (fun _ => xpf) ?_
      refine zdd <| ztn <| zcf <| zsk <| zbn <| ztn <| zrg ?_
      refine zlv (xadd (r := i + 1)) ?_
      refine zlv xmv ?_
      refine zln <| zlq ⟨r, i + 1, rfl, (by omega), (by omega), ?_, rfl, hS⟩
      ·
       rw [gfr_next t h0, ← hr]; split <;> omega
    ·
     refine zxt <| ztx <| ztx <| zbh <| ztn <| zsq <| zrg ?_
     refine zlv xmv ?_
     refine zlv (xmax (r := (max r 0))) ?_
     refine zlv xmv ?_
     refine zlv xgeq ?_
     iterate 3 refine zlv xas ?_
     refine zln <| ztn <| zrt <| zf3 ⟨_, rfl, ?_⟩
     obtain rfl : i = t.nb := by omega
     exact ⟨_, _, _, rfl, .inr ⟨hp, by rw [← hr], by rw [← hr], rfl⟩, hS.nl⟩

set_option maxRecDepth 20000 in
theorem c_rfrac {vB vF vC : Value} {vv : Int → Value} {t : Tb} (w0 : World) (hT : TAt w0 vB vF vC vv t) :
    Calls Try.prog 17 [.agg #[.int .i64 t.vars, .int .i64 t.den, vB, vF, vC]].toArray w0 fun e w => ∃ v, e = .returned v ∧ ∃ (r : Int) (ok : Prop) (e : Int), v = .tuple #[.int .i64 r, B ok, .int .i64 e] ∧ FracR t r ok e ∧ Sat w0 w [] := by
  have hn := hT.F.slh.n0; have hn1 := hT.F.slh.n1; have hb := hT.B.slh.n0; have hb1 := hT.B.slh.n1; have hc0 := hT.C.row.slh.n0; have hc1 := hT.C.row.slh.n1
  refine zenG Try.func17 Try.ntmps17 fun w hS => ?_
  refine zsq <| zrg ?_
  refine zla (xbx (cs := [_, _, _, _, _]) hS) ?_; rintro _ w ⟨g1, rfl, hS⟩
  replace hS : Sat w0 w [.blk _ [_, _, _, _, _]] := hS
  iterate 3 refine zlv xas ?_
  refine zln <| ztn <| zsq <| zsq <| zrg ?_
  refine zlv (xls 0 st_25 hS) ?_
  refine zlc (xc0 cl_62) (c_rproper (t := t) w (hT.below hS.below)) ?_; rintro _ w ⟨rfl, hS'⟩
  replace hS := hS.cmp hS'; clear hS'
  refine zlv xnot ?_
  refine zln <| ztn ?_
  refine zcif ?_ ?_ <;> intro hc
  ·
   refine zsq <| zrg ?_
   iterate 3 refine zlv xas ?_
   refine zln <| ztn <| zrt <| ztr <| zf3 ⟨_, rfl, ?_⟩
   exact ⟨0, False, 1, by rw [B_false not_false], .inl ⟨by assumption, rfl, not_false, rfl⟩, hS.nl⟩
  ·
   refine zsk <| ztn <| zsq <| zrg ?_
   refine zlv xas ?_
   refine zln <| ztn <| zsq <| zsq <| zrg ?_
   refine zlv xas ?_
   refine zln <| ztn <| zbk ?_
   have hp : TPrp t := by first | assumption | exact Classical.not_not.1 ‹¬ ¬ (TPrp t)›
   have b1 := hp.n1
   have b2 := hp.n2
   have b3 := hp.m2
   have b4 := hp.v
   have b5 := hp.d1
   have b6 := hp.d2
   have b7 := hp.c
   refine zlp (fun mm M w => ∃ (r : Int) (i : Int), mm = ((t.nb - i).toNat) ∧ (0 ≤ i) ∧ (i ≤ t.nb) ∧ (r = gfr t i.toNat) ∧ M = [(1, .pointer (some ⟨g1, 0, none⟩)), (2, .int .i64 0), (3, .bool false), (4, .int .i64 0), (5, .int .i64 r), (6, .int .i64 i)] ∧ Sat w0 w [.blk g1 [.int .i64 t.vars, .int .i64 t.den, vB, vF, vC]]) ⟨(-1), 0, rfl, (by omega), (by omega), ?_, rfl, hS⟩ ?_
   ·
    rfl
   ·
    clear hS w
    rintro mm M w ⟨r, i, rfl, h0, h1, hr, rfl, hS⟩
    have hrr := gfr_rng t i.toNat; rw [← hr] at hrr
    refine zsq <| zsq <| zrg ?_
    refine zlv xmv ?_
    refine zlv (xfb 2 fd_25_2) ?_
    refine zlv (xlb 0 pl_22 hS) ?_
    refine zlv (xln sl_22 hT.B.slh) ?_
    refine zlv xlss ?_
    refine zln <| ztn ?_
    refine zcif ?_ ?_ <;> intro hc
    ·
     refine zsk <| ztn <| zsq <| zbk <| zsq ?_
     refine zdst [0] [0] 1000 mx_ hS ?_; clear hS; intro w hS
     refine zdv 0 (fun _ => (xfb 2 fd_25_2)) ?_
     refine zdla 1 (fun w hS => (xlb 0 pl_22 hS)) ?_
     refine zdv 2 (fun _ => xmv) ?_
     refine zdv 3 (fun _ => (xix (kk := i) sl_22 hT.B.slh)) ?_
     refine zdla 4 (fun w hS => (xlr (u := .int .i64 (t.B i)) pl_3 (hT.B.below hS.below))) ?_
     refine zdv 5 (fun _ => (xfb 0 fd_25_0)) ?_
     refine zdla 6 (fun w hS => (xlb 0 pl_3 hS)) ?_
     refine zdv 7 (fun _ => xlss) ?_
     refine zdv 8 (fun _ => xmv) ?_
     refine zdb 25 ?_ ?_ <;> intro hc
     ·
      refine zdv 9 (fun _ => (xfb 4 fd_25_4)) ?_
      refine zdla 10 (fun w hS => (xlb 0 pl_23 hS)) ?_
      have hlen := hp.len (i := i + 1) (by omega) (by omega)
      refine zdv 11 (fun _ => xmv) ?_
      refine zdv 12 (fun _ => (xadd (r := i + 1))) ?_
      refine zdv 13 (fun _ => (xix (kk := i + 1) sl_23 hT.C.row.slh)) ?_
      refine zdla 14 (fun w hS => (xlr (u := (vv (i + 1))) pl_22 (hT.C.row.below hS.below))) ?_
      refine zdv 15 (fun _ => (xix (kk := 0) sl_22 (hT.C.p (i + 1) (by omega) (by omega)).slh)) ?_
      refine zdla 16 (fun w hS => (xlr (u := .int .i64 ((t.C (i + 1)) 0)) pl_3 ((hT.C.p (i + 1) (by omega) (by omega)).below hS.below))) ?_
      refine zdv 17 (fun _ => (xfb 1 fd_25_1)) ?_
      refine zdla 18 (fun w hS => (xlb 0 pl_3 hS)) ?_
      refine zdv 19 (fun _ => (xrem (r := (Int.tmod ((t.C (i + 1)) 0) t.den)))) ?_
      refine zdv 20 (fun _ => xneq) ?_
      refine zdv 21 (fun _ => xpt) ?_
      refine zdv 22 (fun _ => xmv) ?_
      refine zdb 39 ?_ ?_ <;> intro hc
      ·
       refine zdv 23 (fun _ => xmv) ?_
       refine zdv 24 (fun _ => xlss) ?_
       refine zdv 25 (fun _ => xmv) ?_
       refine zdb 42 ?_ ?_ <;> intro hc
       ·
        refine zdof 26 ?_
        refine zdof 27 ?_
        refine zdof 28 ?_
        refine zdof 29 ?_
        refine zdof 30 ?_
        refine zdof 31 ?_
        refine zdof 32 ?_
        refine zdof 33 ?_
        refine zdof 34 ?_
        refine zdof 35 ?_
        refine zdof 36 ?_
        refine zdv 37 (fun _ => xpt) ?_
        refine zdv 38 (fun _ => xpt) ?_
        refine zdd <| ztn <| zct <| zrg ?_
        refine zlv xmv ?_
        refine zlv xas ?_
        refine zln <| zbn <| ztn <| zrg ?_
        refine zlv xmv ?_
        refine zlv (xadd (r := i + 1)) ?_
        refine zlv xas ?_
        refine zln <| zlq ⟨i, i + 1, rfl, (by omega), (by omega), ?_, rfl, hS⟩
        ·
         rw [gfr_next t h0, ← hr]; split <;> omega
       ·
        refine zdv 26 (fun _ => (xfb 2 fd_25_2)) ?_
        refine zdla 27 (fun w hS => (xlb 0 pl_22 hS)) ?_
        refine zdv 28 (fun _ => xmv) ?_
        refine zdv 29 (fun _ => (xix (kk := i) sl_22 hT.B.slh)) ?_
        refine zdla 30 (fun w hS => (xlr (u := .int .i64 (t.B i)) pl_3 (hT.B.below hS.below))) ?_
        refine zdv 31 (fun _ => (xfb 2 fd_25_2)) ?_
        refine zdla 32 (fun w hS => (xlb 0 pl_22 hS)) ?_
        refine zdv 33 (fun _ => xmv) ?_
        refine zdv 34 (fun _ => (xix (kk := r) sl_22 hT.B.slh)) ?_
        refine zdla 35 (fun w hS => (xlr (u := .int .i64 (t.B r)) pl_3 (hT.B.below hS.below))) ?_
        refine zdv 36 (fun _ => xlss) ?_
        refine zdv 37 (fun _ => xpf) ?_
        refine zdv 38 (fun _ => xpt) ?_
        refine zdd <| ztn ?_
        refine zcif ?_ ?_ <;> intro hc
        ·
         refine zrg ?_
         refine zlv xmv ?_
         refine zlv xas ?_
         refine zln <| zbn <| ztn <| zrg ?_
         refine zlv xmv ?_
         refine zlv (xadd (r := i + 1)) ?_
         refine zlv xas ?_
         refine zln <| zlq ⟨i, i + 1, rfl, (by omega), (by omega), ?_, rfl, hS⟩
         ·
          rw [gfr_next t h0, ← hr]; split <;> omega
        ·
         refine zsk <| zbn <| ztn <| zrg ?_
         refine zlv xmv ?_
         refine zlv (xadd (r := i + 1)) ?_
         refine zlv xas ?_
         refine zln <| zlq ⟨r, i + 1, rfl, (by omega), (by omega), ?_, rfl, hS⟩
         ·
          rw [gfr_next t h0, ← hr]; split <;> omega
      ·
       refine zdof 23 ?_
       refine zdof 24 ?_
       refine zdof 25 ?_
       refine zdof 26 ?_
       refine zdof 27 ?_
       refine zdof 28 ?_
       refine zdof 29 ?_
       refine zdof 30 ?_
       refine zdof 31 ?_
       refine zdof 32 ?_
       refine zdof 33 ?_
       refine zdof 34 ?_
       refine zdof 35 ?_
       refine zdof 36 ?_
       refine zdof 37 ?_
       refine zdv 38 (fun _ => xpf) ?_
       refine zdd <| ztn <| zcf <| zsk <| zbn <| ztn <| zrg ?_
       refine zlv xmv ?_
       refine zlv (xadd (r := i + 1)) ?_
       refine zlv xas ?_
       refine zln <| zlq ⟨r, i + 1, rfl, (by omega), (by omega), ?_, rfl, hS⟩
       ·
        rw [gfr_next t h0, ← hr]; split <;> omega
     ·
      refine zdof 9 ?_
      refine zdof 10 ?_
      refine zdof 11 ?_
      refine zdof 12 ?_
      refine zdof 13 ?_
      refine zdof 14 ?_
      refine zdof 15 ?_
      refine zdof 16 ?_
      refine zdof 17 ?_
      refine zdof 18 ?_
      refine zdof 19 ?_
      refine zdof 20 ?_
      refine zdv 21 (fun _ => xpf) ?_
      refine zdv 22 (fun _ => xmv) ?_
      refine zdof 23 ?_
      refine zdof 24 ?_
      refine zdof 25 ?_
      refine zdof 26 ?_
      refine zdof 27 ?_
      refine zdof 28 ?_
      refine zdof 29 ?_
      refine zdof 30 ?_
      refine zdof 31 ?_
      refine zdof 32 ?_
      refine zdof 33 ?_
      refine zdof 34 ?_
      refine zdof 35 ?_
      refine zdof 36 ?_
      refine zdof 37 ?_
      refine zdv 38 (fun _ => xpf) ?_
      refine zdd <| ztn <| zcf <| zsk <| zbn <| ztn <| zrg ?_
      refine zlv xmv ?_
      refine zlv (xadd (r := i + 1)) ?_
      refine zlv xas ?_
      refine zln <| zlq ⟨r, i + 1, rfl, (by omega), (by omega), ?_, rfl, hS⟩
      ·
       rw [gfr_next t h0, ← hr]; split <;> omega
    ·
     refine zxt <| ztx <| ztx <| zbh <| ztn <| zsq <| zrg ?_
     refine zlv xmv ?_
     refine zlv (xmax (r := (max r 0))) ?_
     refine zlv xmv ?_
     refine zlv xgeq ?_
     iterate 3 refine zlv xas ?_
     refine zln <| ztn <| zrt <| zf3 ⟨_, rfl, ?_⟩
     obtain rfl : i = t.nb := by omega
     exact ⟨_, _, _, rfl, .inr ⟨hp, by rw [← hr], by rw [← hr], rfl⟩, hS.nl⟩

theorem c_rem {a d : Int} (w0 : World) (h1 : 1 ≤ d) (h2 : d ≤ 1073741824) :
    Calls Try.prog 63 [.int .i64 a, .int .i64 d].toArray w0 fun e w => ∃ v, e = .returned v ∧ v = .int .i64 (rmd a d) ∧ Sat w0 w [] := by
  have hm1 := tmod_rng (a := a) h1; have hm2 := tmod_rng (a := a.tmod d + d) h1
  refine zenG Try.func63 Try.ntmps63 fun w hS => ?_
  refine zsq <| zrg ?_
  refine zlv xas ?_
  refine zln <| ztn <| zsq <| zrg ?_
  iterate 2 refine zlv xmv ?_
  refine zlv (xrem (r := (Int.tmod a d))) ?_
  refine zlv xmv ?_
  refine zlv (xadd (r := (Int.tmod a d) + d)) ?_
  refine zlv xmv ?_
  refine zlv (xrem (r := (Int.tmod ((Int.tmod a d) + d) d))) ?_
  refine zlv xas ?_
  refine zln <| ztn <| zrt <| zf1 ⟨_, rfl, ?_⟩
  exact ⟨rfl, hS⟩

theorem c_mod {a d : Int} (w0 : World) (h1 : 1 ≤ d) (h2 : d ≤ 1073741824) :
    Calls Try.prog 64 [.int .i64 a, .int .i64 d].toArray w0 fun e w => ∃ v, e = .returned v ∧ v = .int .i64 (rmd a d) ∧ Sat w0 w [] := by
  have hm1 := tmod_rng (a := a) h1; have hm2 := tmod_rng (a := a.tmod d + d) h1
  refine zenG Try.func64 Try.ntmps64 fun w hS => ?_
  refine zsq <| zrg ?_
  refine zlv xas ?_
  refine zln <| ztn <| zsq <| zrg ?_
  iterate 2 refine zlv xmv ?_
  refine zlv (xrem (r := (Int.tmod a d))) ?_
  refine zlv xmv ?_
  refine zlv (xadd (r := (Int.tmod a d) + d)) ?_
  refine zlv xmv ?_
  refine zlv (xrem (r := (Int.tmod ((Int.tmod a d) + d) d))) ?_
  refine zlv xas ?_
  refine zln <| ztn <| zrt <| zf1 ⟨_, rfl, ?_⟩
  exact ⟨rfl, hS⟩

end Go.Proofs.Ytelfplepnodbgaa
