/- The walks of rounds, of gomory. -/
import Derived.Test.YtelfplepnodbgaaGc
import Derived.Test.YtelfplepnodbgaaW36
import Derived.Test.YtelfplepnodbgaaFg
import Derived.Test.YtelfplepnodbgaaGh
namespace Go.Proofs.Ytelfplepnodbgaa
open Go Go.RowKit Go.Proofs.Gw
set_option linter.unusedVariables false

theorem cl_101 : calledT Try.prog 101 = true := by kernel_rfl
theorem cl_102 : calledT Try.prog 102 = true := by kernel_rfl
theorem cl_16 : calledT Try.prog 16 = true := by kernel_rfl
theorem cl_18 : calledT Try.prog 18 = true := by kernel_rfl
theorem cl_19 : calledT Try.prog 19 = true := by kernel_rfl
theorem cl_20 : calledT Try.prog 20 = true := by kernel_rfl
theorem cl_28 : calledT Try.prog 28 = true := by kernel_rfl
theorem cl_61 : calledT Try.prog 61 = true := by kernel_rfl
theorem cl_63 : calledT Try.prog 63 = true := by kernel_rfl
theorem cl_64 : calledT Try.prog 64 = true := by kernel_rfl
theorem el_141 : elemT Try.prog 141 = some (.nilFunc, 1, 8) := by kernel_rfl
theorem pl_141 : plainT Try.prog 141 = true := by kernel_rfl
theorem c_great {x : Int} (w0 : World) :
    Calls Try.prog 101 [.int .i64 x].toArray w0 fun e w => ∃ v, e = .returned v ∧ v = B (¬ (-1073741824 ≤ x ∧ x ≤ 1073741824)) ∧ Sat w0 w [] := by
  refine zenG Try.func101 Try.ntmps101 fun w hS => ?_
  refine zsq <| zrg ?_
  refine zlv xas ?_
  refine zln <| ztn <| zsq <| zrg ?_
  refine zlv xmv ?_
  refine zlv xlss ?_
  refine zlv xmv ?_
  refine zlb 5 ?_ ?_ <;> intro hc
  ·
   iterate 2 refine zlo ?_
   refine zlv xpt ?_
   refine zlv xas ?_
   refine zln <| ztn <| zrt <| zf1 ⟨_, rfl, ?_⟩
   exact ⟨true_B (by omega), hS⟩
  ·
   refine zlv xmv ?_
   refine zlv xgtr ?_
   refine zlv xpf ?_
   refine zlv xas ?_
   refine zln <| ztn <| zrt <| zf1 ⟨_, rfl, ?_⟩
   exact ⟨B_congr (by omega), hS⟩

theorem c_ixgrt {v : Value} {n : Int} {f : Int → Int} (w0 : World) (hR : Row w0 v 1 n (ints f)) :
    Calls Try.prog 93 [v, .func (.func 101) #[] #[]].toArray w0 fun e w => ∃ v, e = .returned v ∧ ∃ r : Int, v = .int .i64 r ∧ ((r = -1 ∧ ∀ k, 0 ≤ k → k < n → ¬ (¬ (-1073741824 ≤ f k ∧ f k ≤ 1073741824))) ∨ (0 ≤ r ∧ r < n ∧ (¬ (-1073741824 ≤ f r ∧ f r ≤ 1073741824)))) ∧ Sat w0 w [] := by
  have hn := hR.slh.n0; have hn1 := hR.slh.n1
  refine zenG Try.func93 Try.ntmps93 fun w hS => ?_
  refine zsq <| zrg ?_
  refine zlv xas ?_
  refine zln <| ztn <| zsq <| zsq <| zrg ?_
  refine zlv xmv ?_
  refine zlv (xln sl_22 hR.slh) ?_
  refine zlv xmv ?_
  refine zln <| ztn <| zbk <| zlp (fun mm M w => ∃ (i : Int), mm = ((n - i).toNat) ∧ (0 ≤ i) ∧ (i ≤ n) ∧ (∀ k, 0 ≤ k → k < i → ¬ (¬ (-1073741824 ≤ f k ∧ f k ≤ 1073741824))) ∧ M = [(0, v), (1, .func (.func 101) #[] #[]), (7, .int .i64 n), (8, .int .i64 i)] ∧ Sat w0 w []) ⟨0, rfl, (by omega), (by omega), ?_, rfl, hS⟩ ?_
  ·
   intro k h0 h1; omega
  ·
   clear hS w
   rintro mm M w ⟨i, rfl, h0, h1, hall, rfl, hS⟩
   refine zsq <| zrg ?_
   refine zlv xlss ?_
   refine zln <| ztn <| zsq ?_
   refine zcif ?_ ?_ <;> intro hc
   ·
    refine zsk <| ztn <| zsq <| zbk <| zsq <| zrg ?_
    refine zlv xmv ?_
    refine zlv xas ?_
    refine zln <| ztn <| zsq <| zrg ?_
    iterate 3 refine zlv xmv ?_
    refine zlv (xix (kk := i) sl_22 hR.slh) ?_
    refine zlv (xlr (u := .int .i64 (f i)) pl_3 (hR.below hS.below)) ?_
    refine zlc (xc0 cl_101) (c_great (x := (f i)) w) ?_; rintro _ w ⟨rfl, hS'⟩
    replace hS := hS.cmp hS'; clear hS'
    refine zln <| ztn ?_
    refine zcif ?_ ?_ <;> intro hc
    ·
     refine zsq <| zrg ?_
     refine zlv xmv ?_
     refine zlv xas ?_
     refine zln <| ztn <| zrt <| zbr <| ztr <| ztr <| zbr <| ztr <| zf1 ⟨_, rfl, ?_⟩
     exact ⟨i, rfl, .inr ⟨by omega, by omega, ‹¬ (-1073741824 ≤ f i ∧ f i ≤ 1073741824)›⟩, hS⟩
    ·
     refine zsk <| zbn <| ztn <| zrg ?_
     refine zlv (xadd (r := i + 1)) ?_
     refine zlv xmv ?_
     refine zln <| zlq ⟨i + 1, rfl, (by omega), (by omega), ?_, rfl, hS⟩
     ·
      intro k h0' h1'; rcases Int.lt_or_eq_of_le (show k ≤ i by omega) with hk | hk; exact hall k h0' hk; rw [hk]; assumption
   ·
    refine zxt <| ztx <| ztx <| zbh <| ztn <| zsq <| zrg ?_
    refine zlv xas ?_
    refine zln <| ztn <| zrt <| zf1 ⟨_, rfl, ?_⟩
    exact ⟨-1, rfl, .inl ⟨rfl, fun k h0 h1 => hall k h0 (by omega)⟩, hS⟩

theorem c_cogrt {v : Value} {n : Int} {f : Int → Int} (w0 : World) (hR : Row w0 v 1 n (ints f)) :
    Calls Try.prog 103 [v, .func (.func 101) #[] #[]].toArray w0 fun e w => ∃ v, e = .returned v ∧ v = B (∃ k, 0 ≤ k ∧ k < n ∧ (¬ (-1073741824 ≤ f k ∧ f k ≤ 1073741824))) ∧ Sat w0 w [] := by
  refine zenG Try.func103 Try.ntmps103 fun w hS => ?_
  refine zsq <| zrg ?_
  refine zlv xas ?_
  refine zln <| ztn <| zsq <| zrg ?_
  iterate 2 refine zlv xmv ?_
  refine zlc (xc0 cl_93) (c_ixgrt w (hR.below hS.below)) ?_; rintro _ w ⟨r1, rfl, hr1, hS'⟩
  replace hS := hS.cmp hS'; clear hS'
  refine zlv xgeq ?_
  refine zlv xas ?_
  refine zln <| ztn <| zrt <| zf1 ⟨_, rfl, ?_⟩
  exact ⟨B_congr (by
   rcases hr1 with ⟨h1, h2⟩ | ⟨h1, h2, h3⟩
   · exact ⟨fun h => by omega, fun ⟨k, h4, h5, h6⟩ => absurd h6 (h2 k h4 h5)⟩
   · exact ⟨fun _ => ⟨_, h1, h2, h3⟩, fun _ => h1⟩), hS⟩

theorem c_gwr {v : Value} {n q : Int} {f : Int → Int} {a1 a2 : Addr} (w0 : World) (hR : Row w0 v 1 n (ints f)) (hp1 : w0.cell? a1 = some (.int .i64 q)) (hq : 0 ≤ q ∧ q ≤ 100) (hp2 : w0.cell? a2 = some (.func (.func 101) #[] #[])) :
    Calls Try.prog 102 [v, .pointer (some a1), .pointer (some a2)].toArray w0 fun e w => ∃ v, e = .returned v ∧ v = B (¬ (n = q + 1 ∧ Btw f n 1073741824)) ∧ Sat w0 w [] := by
  have hn1 := hR.slh.n1
  refine zenG Try.func102 Try.ntmps102 fun w hS => ?_
  refine zsq <| zrg ?_
  refine zlv xas ?_
  refine zln <| ztn <| zsq <| zrg ?_
  refine zlv xmv ?_
  refine zlv (xln sl_22 hR.slh) ?_
  refine zlv (xlf pl_3 hp1 hS) ?_
  refine zlv (xadd (r := q + 1)) ?_
  refine zlv xneq ?_
  refine zlv xmv ?_
  refine zlb 10 ?_ ?_ <;> intro hc
  ·
   iterate 3 refine zlo ?_
   refine zlv xpt ?_
   refine zlv xas ?_
   refine zln <| ztn <| zrt <| zf1 ⟨_, rfl, ?_⟩
   exact ⟨true_B (by omega), hS⟩
  ·
   refine zlv xmv ?_
   refine zlv (xlf pl_141 hp2 hS) ?_
   refine zlc (xc0 cl_103) (c_cogrt (n := n) (f := f) w (hR.below hS.below)) ?_; rintro _ w ⟨rfl, hS'⟩
   replace hS := hS.cmp hS'; clear hS'
   refine zlv xpf ?_
   refine zlv xas ?_
   refine zln <| ztn <| zrt <| zf1 ⟨_, rfl, ?_⟩
   exact ⟨B_congr ⟨fun ⟨k, k0, k1, h⟩ hh => h (hh.2 k k0 k1), fun h => Classical.not_not.1 fun hx => h ⟨by omega, fun k k0 k1 => Classical.not_not.1 fun hk => hx ⟨k, k0, k1, hk⟩⟩⟩, hS⟩

theorem c_ixmg {v : Value} {n q : Int} {vv : Int → Value} {ln : Int → Int} {f : Int → Int → Int} {a1 a2 : Addr} (w0 : World) (hM : MAt w0 v n vv ln f) (hp1 : w0.cell? a1 = some (.int .i64 q)) (hq : 0 ≤ q ∧ q ≤ 100) (hp2 : w0.cell? a2 = some (.func (.func 101) #[] #[])) :
    Calls Try.prog 111 [v, .func (.func 102) #[] #[.pointer (some a1), .pointer (some a2)]].toArray w0 fun e w => ∃ v, e = .returned v ∧ ∃ r : Int, v = .int .i64 r ∧ ((r = -1 ∧ ∀ k, 0 ≤ k → k < n → ¬ (¬ ((ln k) = q + 1 ∧ Btw (f k) (ln k) 1073741824))) ∨ (0 ≤ r ∧ r < n ∧ (¬ ((ln r) = q + 1 ∧ Btw (f r) (ln r) 1073741824)))) ∧ Sat w0 w [] := by
  have hn := hM.row.slh.n0; have hn1 := hM.row.slh.n1
  refine zenG Try.func111 Try.ntmps111 fun w hS => ?_
  refine zsq <| zrg ?_
  refine zlv xas ?_
  refine zln <| ztn <| zsq <| zsq <| zrg ?_
  refine zlv xmv ?_
  refine zlv (xln sl_23 hM.row.slh) ?_
  refine zlv xmv ?_
  refine zln <| ztn <| zbk <| zlp (fun mm M w => ∃ (i : Int), mm = ((n - i).toNat) ∧ (0 ≤ i) ∧ (i ≤ n) ∧ (∀ k, 0 ≤ k → k < i → ¬ (¬ ((ln k) = q + 1 ∧ Btw (f k) (ln k) 1073741824))) ∧ M = [(0, v), (1, .func (.func 102) #[] #[.pointer (some a1), .pointer (some a2)]), (7, .int .i64 n), (8, .int .i64 i)] ∧ Sat w0 w []) ⟨0, rfl, (by omega), (by omega), ?_, rfl, hS⟩ ?_
  ·
   intro k h0 h1; omega
  ·
   clear hS w
   rintro mm M w ⟨i, rfl, h0, h1, hall, rfl, hS⟩
   refine zsq <| zrg ?_
   refine zlv xlss ?_
   refine zln <| ztn <| zsq ?_
   refine zcif ?_ ?_ <;> intro hc
   ·
    refine zsk <| ztn <| zsq <| zbk <| zsq <| zrg ?_
    refine zlv xmv ?_
    refine zlv xas ?_
    refine zln <| ztn <| zsq <| zrg ?_
    iterate 3 refine zlv xmv ?_
    refine zlv (xix (kk := i) sl_23 hM.row.slh) ?_
    refine zlv (xlr (u := (vv i)) pl_22 (hM.row.below hS.below)) ?_
    refine zlc (xcc (vs := [_]) cl_102) (c_gwr (n := (ln i)) (q := q) (f := (f i)) w ((hM.p i (by omega) (by omega)).below hS.below) (hS.ref hp1) hq (hS.ref hp2)) ?_; rintro _ w ⟨rfl, hS'⟩
    replace hS := hS.cmp hS'; clear hS'
    refine zln <| ztn ?_
    refine zcif ?_ ?_ <;> intro hc
    ·
     refine zsq <| zrg ?_
     refine zlv xmv ?_
     refine zlv xas ?_
     refine zln <| ztn <| zrt <| zbr <| ztr <| ztr <| zbr <| ztr <| zf1 ⟨_, rfl, ?_⟩
     exact ⟨i, rfl, .inr ⟨by omega, by omega, ‹¬ ((ln i) = q + 1 ∧ Btw (f i) (ln i) 1073741824)›⟩, hS⟩
    ·
     refine zsk <| zbn <| ztn <| zrg ?_
     refine zlv (xadd (r := i + 1)) ?_
     refine zlv xmv ?_
     refine zln <| zlq ⟨i + 1, rfl, (by omega), (by omega), ?_, rfl, hS⟩
     ·
      intro k h0' h1'; rcases Int.lt_or_eq_of_le (show k ≤ i by omega) with hk | hk; exact hall k h0' hk; rw [hk]; assumption
   ·
    refine zxt <| ztx <| ztx <| zbh <| ztn <| zsq <| zrg ?_
    refine zlv xas ?_
    refine zln <| ztn <| zrt <| zf1 ⟨_, rfl, ?_⟩
    exact ⟨-1, rfl, .inl ⟨rfl, fun k h0 h1 => hall k h0 (by omega)⟩, hS⟩

theorem c_comg {v : Value} {n q : Int} {vv : Int → Value} {ln : Int → Int} {f : Int → Int → Int} {a1 a2 : Addr} (w0 : World) (hM : MAt w0 v n vv ln f) (hp1 : w0.cell? a1 = some (.int .i64 q)) (hq : 0 ≤ q ∧ q ≤ 100) (hp2 : w0.cell? a2 = some (.func (.func 101) #[] #[])) :
    Calls Try.prog 78 [v, .func (.func 102) #[] #[.pointer (some a1), .pointer (some a2)]].toArray w0 fun e w => ∃ v, e = .returned v ∧ v = B (∃ k, 0 ≤ k ∧ k < n ∧ (¬ ((ln k) = q + 1 ∧ Btw (f k) (ln k) 1073741824))) ∧ Sat w0 w [] := by
  refine zenG Try.func78 Try.ntmps78 fun w hS => ?_
  refine zsq <| zrg ?_
  refine zlv xas ?_
  refine zln <| ztn <| zsq <| zrg ?_
  iterate 2 refine zlv xmv ?_
  refine zlc (xc0 cl_111) (c_ixmg w (hM.below hS.below) (hS.ref hp1) hq (hS.ref hp2)) ?_; rintro _ w ⟨r1, rfl, hr1, hS'⟩
  replace hS := hS.cmp hS'; clear hS'
  refine zlv xgeq ?_
  refine zlv xas ?_
  refine zln <| ztn <| zrt <| zf1 ⟨_, rfl, ?_⟩
  exact ⟨B_congr (by
   rcases hr1 with ⟨h1, h2⟩ | ⟨h1, h2, h3⟩
   · exact ⟨fun h => by omega, fun ⟨k, h4, h5, h6⟩ => absurd h6 (h2 k h4 h5)⟩
   · exact ⟨fun _ => ⟨_, h1, h2, h3⟩, fun _ => h1⟩), hS⟩

set_option maxRecDepth 20000 in
theorem c_gproper {vB vF vC : Value} {vv : Int → Value} {t : Tb} (w0 : World) (hT : TAt w0 vB vF vC vv t) :
    Calls Try.prog 61 [.agg #[.int .i64 t.vars, .int .i64 t.den, vB, vF, vC]].toArray w0 fun e w => ∃ v, e = .returned v ∧ v = B (TPrp t) ∧ Sat w0 w [] := by
  have hn := hT.F.slh.n0; have hn1 := hT.F.slh.n1; have hb := hT.B.slh.n0; have hb1 := hT.B.slh.n1; have hc0 := hT.C.row.slh.n0; have hc1 := hT.C.row.slh.n1
  refine zenG Try.func61 Try.ntmps61 fun w hS => ?_
  refine zsq <| zrg ?_
  refine zla (xbx (cs := [_, _, _, _, _]) hS) ?_; rintro _ w ⟨g1, rfl, hS⟩
  replace hS : Sat w0 w [.blk _ [_, _, _, _, _]] := hS
  refine zlv xas ?_
  refine zln <| ztn <| zsq ?_
  refine zdst [0] [0] 7 mx_ hS ?_; clear hS; intro w hS
  refine zdv 0 (fun _ => (xfb 3 fd_28_3)) ?_
  refine zdla 1 (fun w hS => (xlb 0 pl_22 hS)) ?_
  refine zdv 2 (fun _ => (xln sl_22 hT.F.slh)) ?_
  refine zdv 3 (fun _ => (xfb 2 fd_28_2)) ?_
  refine zdla 4 (fun w hS => (xlb 0 pl_22 hS)) ?_
  refine zdv 5 (fun _ => (xln sl_22 hT.B.slh)) ?_
  refine zda 6 (xal (cs := [_]) el_3 hS) ?_; rintro _ w ⟨g2, rfl, hS⟩
  replace hS : Sat w0 w [.blk _ [_, _, _, _, _], .blk _ [_]] := hS
  refine ⟨⟨fun _ => hS.pk [0], hS.pk [0]⟩, ?_⟩
  refine zde 7 (xsb 1 pl_3 hS) ?_; clear hS; rintro w hS
  replace hS : Sat w0 w [.blk _ [_, _, _, _, _], .blk _ [_]] := hS
  refine ⟨⟨fun h => absurd h (by decide), hS.pk [0]⟩, ?_⟩
  refine zdv 8 (fun _ => xas) ?_
  refine zdd <| ztn <| zsq <| zsq <| zrg ?_
  refine zlv (xlb 1 pl_3 hS) ?_
  refine zlv xlss ?_
  refine zlv xmv ?_
  refine zlb 16 ?_ ?_ <;> intro hc
  ·
   iterate 2 refine zlo ?_
   refine zlv xpt ?_
   refine zlv xmv ?_
   iterate 2 refine zlo ?_
   refine zlv xpt ?_
   refine zlv xmv ?_
   iterate 4 refine zlo ?_
   refine zlv xpt ?_
   refine zlv xmv ?_
   iterate 3 refine zlo ?_
   refine zlv xpt ?_
   refine zlv xmv ?_
   iterate 3 refine zlo ?_
   refine zlv xpt ?_
   refine zlv xmv ?_
   iterate 6 refine zlo ?_
   refine zlv xpt ?_
   refine zln <| ztn <| zct <| zsq <| zrg ?_
   refine zlv xas ?_
   refine zln <| ztn <| zrt <| ztr <| zf1 ⟨_, rfl, ?_⟩
   exact ⟨false_B (by intro hp; have b1 := hp.n1; have b2 := hp.n2; have b3 := hp.m2; have b4 := hp.v; have b5 := hp.d1; have b6 := hp.d2; have b7 := hp.c; first | omega | (have hq1 := (perm_sorted (by omega) hsosgq2).2 ((perm_swap (by omega) (by omega) hp.perm).congr fun k k0 k1 => (catN2 t.nb t.nf t.B t.F k0).symm) i (by omega) (by omega); omega)), hS.nl⟩
  ·
   refine zlv (xlb 1 pl_3 hS) ?_
   refine zlv xgtr ?_
   refine zlv xpf ?_
   refine zlv xmv ?_
   refine zlb 20 ?_ ?_ <;> intro hc
   ·
    iterate 2 refine zlo ?_
    refine zlv xpt ?_
    refine zlv xmv ?_
    iterate 4 refine zlo ?_
    refine zlv xpt ?_
    refine zlv xmv ?_
    iterate 3 refine zlo ?_
    refine zlv xpt ?_
    refine zlv xmv ?_
    iterate 3 refine zlo ?_
    refine zlv xpt ?_
    refine zlv xmv ?_
    iterate 6 refine zlo ?_
    refine zlv xpt ?_
    refine zln <| ztn <| zct <| zsq <| zrg ?_
    refine zlv xas ?_
    refine zln <| ztn <| zrt <| ztr <| zf1 ⟨_, rfl, ?_⟩
    exact ⟨false_B (by intro hp; have b1 := hp.n1; have b2 := hp.n2; have b3 := hp.m2; have b4 := hp.v; have b5 := hp.d1; have b6 := hp.d2; have b7 := hp.c; first | omega | (have hq1 := (perm_sorted (by omega) hsosgq2).2 ((perm_swap (by omega) (by omega) hp.perm).congr fun k k0 k1 => (catN2 t.nb t.nf t.B t.F k0).symm) i (by omega) (by omega); omega)), hS.nl⟩
   ·
    refine zlv xmv ?_
    refine zlv xgtr ?_
    refine zlv xpf ?_
    refine zlv xmv ?_
    refine zlb 24 ?_ ?_ <;> intro hc
    ·
     iterate 4 refine zlo ?_
     refine zlv xpt ?_
     refine zlv xmv ?_
     iterate 3 refine zlo ?_
     refine zlv xpt ?_
     refine zlv xmv ?_
     iterate 3 refine zlo ?_
     refine zlv xpt ?_
     refine zlv xmv ?_
     iterate 6 refine zlo ?_
     refine zlv xpt ?_
     refine zln <| ztn <| zct <| zsq <| zrg ?_
     refine zlv xas ?_
     refine zln <| ztn <| zrt <| ztr <| zf1 ⟨_, rfl, ?_⟩
     exact ⟨false_B (by intro hp; have b1 := hp.n1; have b2 := hp.n2; have b3 := hp.m2; have b4 := hp.v; have b5 := hp.d1; have b6 := hp.d2; have b7 := hp.c; first | omega | (have hq1 := (perm_sorted (by omega) hsosgq2).2 ((perm_swap (by omega) (by omega) hp.perm).congr fun k k0 k1 => (catN2 t.nb t.nf t.B t.F k0).symm) i (by omega) (by omega); omega)), hS.nl⟩
    ·
     refine zlv (xfb 0 fd_28_0) ?_
     refine zlv (xlb 0 pl_3 hS) ?_
     refine zlv (xlb 1 pl_3 hS) ?_
     refine zlv xneq ?_
     refine zlv xpf ?_
     refine zlv xmv ?_
     refine zlb 30 ?_ ?_ <;> intro hc
     ·
      iterate 3 refine zlo ?_
      refine zlv xpt ?_
      refine zlv xmv ?_
      iterate 3 refine zlo ?_
      refine zlv xpt ?_
      refine zlv xmv ?_
      iterate 6 refine zlo ?_
      refine zlv xpt ?_
      refine zln <| ztn <| zct <| zsq <| zrg ?_
      refine zlv xas ?_
      refine zln <| ztn <| zrt <| ztr <| zf1 ⟨_, rfl, ?_⟩
      exact ⟨false_B (by intro hp; have b1 := hp.n1; have b2 := hp.n2; have b3 := hp.m2; have b4 := hp.v; have b5 := hp.d1; have b6 := hp.d2; have b7 := hp.c; first | omega | (have hq1 := (perm_sorted (by omega) hsosgq2).2 ((perm_swap (by omega) (by omega) hp.perm).congr fun k k0 k1 => (catN2 t.nb t.nf t.B t.F k0).symm) i (by omega) (by omega); omega)), hS.nl⟩
     ·
      refine zlv (xfb 1 fd_28_1) ?_
      refine zlv (xlb 0 pl_3 hS) ?_
      refine zlv xlss ?_
      refine zlv xpf ?_
      refine zlv xmv ?_
      refine zlb 35 ?_ ?_ <;> intro hc
      ·
       iterate 3 refine zlo ?_
       refine zlv xpt ?_
       refine zlv xmv ?_
       iterate 6 refine zlo ?_
       refine zlv xpt ?_
       refine zln <| ztn <| zct <| zsq <| zrg ?_
       refine zlv xas ?_
       refine zln <| ztn <| zrt <| ztr <| zf1 ⟨_, rfl, ?_⟩
       exact ⟨false_B (by intro hp; have b1 := hp.n1; have b2 := hp.n2; have b3 := hp.m2; have b4 := hp.v; have b5 := hp.d1; have b6 := hp.d2; have b7 := hp.c; first | omega | (have hq1 := (perm_sorted (by omega) hsosgq2).2 ((perm_swap (by omega) (by omega) hp.perm).congr fun k k0 k1 => (catN2 t.nb t.nf t.B t.F k0).symm) i (by omega) (by omega); omega)), hS.nl⟩
      ·
       refine zlv (xfb 1 fd_28_1) ?_
       refine zlv (xlb 0 pl_3 hS) ?_
       refine zlv xgtr ?_
       refine zlv xpf ?_
       refine zlv xmv ?_
       refine zlb 40 ?_ ?_ <;> intro hc
       ·
        iterate 6 refine zlo ?_
        refine zlv xpt ?_
        refine zln <| ztn <| zct <| zsq <| zrg ?_
        refine zlv xas ?_
        refine zln <| ztn <| zrt <| ztr <| zf1 ⟨_, rfl, ?_⟩
        exact ⟨false_B (by intro hp; have b1 := hp.n1; have b2 := hp.n2; have b3 := hp.m2; have b4 := hp.v; have b5 := hp.d1; have b6 := hp.d2; have b7 := hp.c; first | omega | (have hq1 := (perm_sorted (by omega) hsosgq2).2 ((perm_swap (by omega) (by omega) hp.perm).congr fun k k0 k1 => (catN2 t.nb t.nf t.B t.F k0).symm) i (by omega) (by omega); omega)), hS.nl⟩
       ·
        refine zlv (xfb 4 fd_28_4) ?_
        refine zlv (xlb 0 pl_23 hS) ?_
        refine zlv (xln sl_23 hT.C.row.slh) ?_
        refine zlv xmv ?_
        refine zlv (xadd (r := t.nb + 1)) ?_
        refine zlv xneq ?_
        refine zlv xpf ?_
        refine zln <| ztn ?_
        refine zcif ?_ ?_ <;> intro hc
        ·
         refine zsq <| zrg ?_
         refine zlv xas ?_
         refine zln <| ztn <| zrt <| ztr <| zf1 ⟨_, rfl, ?_⟩
         exact ⟨false_B (by intro hp; have b1 := hp.n1; have b2 := hp.n2; have b3 := hp.m2; have b4 := hp.v; have b5 := hp.d1; have b6 := hp.d2; have b7 := hp.c; first | omega | (have hq1 := (perm_sorted (by omega) hsosgq2).2 ((perm_swap (by omega) (by omega) hp.perm).congr fun k k0 k1 => (catN2 t.nb t.nf t.B t.F k0).symm) i (by omega) (by omega); omega)), hS.nl⟩
        ·
         refine zsk <| ztn <| zsq <| zsq <| zrg ?_
         refine zlv (xfb 2 fd_28_2) ?_
         refine zlv (xlb 0 pl_22 hS) ?_
         refine zlv (xfb 3 fd_28_3) ?_
         refine zlv (xlb 0 pl_22 hS) ?_
         refine zla (xli (n := 2) (len := 2) (pv := [(0, vB), (1, vF)]) (cs := [vB, vF]) (c := (pair2 vB vF)) sl_23 el_22 hS (hf := by obtain ⟨_, _, _, _, rfl, _⟩ := hT.B.slh; obtain ⟨_, _, _, _, rfl, _⟩ := hT.F.slh; kernel_rfl)) ?_; rintro v1 w ⟨hS, hv1⟩
         replace hS : Sat w0 w [.blk _ [_, _, _, _, _], .blk _ [_], _] := hS
         have hna := nat2 (w := w) (a := vB) (b := vF) (n := t.nb) (m := t.nf) (f := t.B) (g := t.F) (hS.rowN 2 rfl) (hT.B.below hS.below) (hT.F.below hS.below)
         have htt : ∀ k : Int, 0 ≤ k → k ≤ 2 → tot (pair2 t.nb t.nf) k.toNat ≤ 100000 := fun k k0 k1 => by
           have : k = 0 ∨ k = 1 ∨ k = 2 := by omega
           rcases this with rfl | rfl | rfl
           · simp [tot]
           · simp [tot, pair2]; omega
           · have e2 := tot2 t.nb t.nf; rw [show (2 : Int).toNat = 2 from rfl, e2]; omega
         refine zlc (xc0 cl_100) (c_concat w hna htt) ?_; rintro vq1 w ⟨_, rfl, hslq1, hS'⟩
         rw [show (2 : Int).toNat = 2 from rfl, tot2] at hslq1 hS'
         replace hS : Sat w0 w [.blk g1 [.int .i64 t.vars, .int .i64 t.den, vB, vF, vC], .blk g2 [.int .i64 t.nf], .own v1 1 22 2 (pair2 vB vF), .own vq1 1 3 (t.nb + t.nf) (ints (catN (pair2 t.nb t.nf) (pair2 t.B t.F) 2))] := hS.comp hS'
         clear hS'
         refine zlc (xc0 cl_99) (c_values (n := (t.nb + t.nf)) w hslq1) ?_; rintro _ w ⟨gv1, rfl, hS'⟩
         replace hS : Sat w0 w [.blk g1 [.int .i64 t.vars, .int .i64 t.den, vB, vF, vC], .blk g2 [.int .i64 t.nf], .own v1 1 22 2 (pair2 vB vF), .own vq1 1 3 (t.nb + t.nf) (ints (catN (pair2 t.nb t.nf) (pair2 t.B t.F) 2)), .blk gv1 [vq1]] := hS.comp hS'; clear hS'
         refine zlc (xc0 cl_98) (c_sorted (n := (t.nb + t.nf)) (f := (catN (pair2 t.nb t.nf) (pair2 t.B t.F) 2)) w (hS.cellN 4 rfl rfl) (hS.holds _ (List.mem_of_getElem? (i := 3) rfl)) (by omega)) ?_; rintro vq2 w ⟨_, sgq2, rfl, hslq2, hsosgq2, hS'⟩
         replace hS : Sat w0 w [.blk g1 [.int .i64 t.vars, .int .i64 t.den, vB, vF, vC], .blk g2 [.int .i64 t.nf], .own v1 1 22 2 (pair2 vB vF), .own vq1 1 3 (t.nb + t.nf) (ints (catN (pair2 t.nb t.nf) (pair2 t.B t.F) 2)), .blk gv1 [vq1], .own vq2 1 3 (t.nb + t.nf) (ints sgq2)] := hS.comp hS'; clear hS'
         refine zlv (xln sl_22 hslq2) ?_
         refine zlv xmv ?_
         refine zln <| ztn <| zbk <| zlp (fun mm M w => ∃ (i : Int), mm = ((t.nb + t.nf - i).toNat) ∧ (0 ≤ i) ∧ (i ≤ t.nb + t.nf) ∧ (∀ k, 0 ≤ k → k < i → sgq2 k = k) ∧ M = [(1, .pointer (some ⟨g1, 0, none⟩)), (3, .pointer (some ⟨g2, 0, none⟩)), (55, vq2), (56, .int .i64 (t.nb + t.nf)), (57, .int .i64 i)] ∧ Sat w0 w [.blk g1 [.int .i64 t.vars, .int .i64 t.den, vB, vF, vC], .blk g2 [.int .i64 t.nf], .own v1 1 22 2 (pair2 vB vF), .own vq1 1 3 (t.nb + t.nf) (ints (catN (pair2 t.nb t.nf) (pair2 t.B t.F) 2)), .blk gv1 [vq1], .own vq2 1 3 (t.nb + t.nf) (ints sgq2)]) ⟨0, rfl, (by omega), (by omega), ?_, rfl, hS⟩ ?_
         ·
          intro k h0 h1; omega
         ·
          clear hS w
          rintro mm M w ⟨i, rfl, h0, h1, hall, rfl, hS⟩
          refine zsq <| zrg ?_
          refine zlv xlss ?_
          refine zln <| ztn <| zsq ?_
          refine zcif ?_ ?_ <;> intro hc
          ·
           refine zsk <| ztn <| zsq <| zbk <| zsq <| zrg ?_
           refine zlv xmv ?_
           refine zlv (xix (kk := i) sl_22 hslq2) ?_
           refine zlv (xlr (u := .int .i64 (sgq2 i)) pl_3 (hS.rowN 5 rfl)) ?_
           iterate 2 refine zlv xas ?_
           refine zln <| ztn <| zsq <| zrg ?_
           iterate 2 refine zlv xmv ?_
           refine zlv xneq ?_
           refine zln <| ztn ?_
           refine zcif ?_ ?_ <;> intro hc
           ·
            refine zsq <| zrg ?_
            refine zlv xas ?_
            refine zln <| ztn <| zrt <| zbr <| ztr <| ztr <| zbr <| ztr <| zf1 ⟨_, rfl, ?_⟩
            exact ⟨false_B (by intro hp; have b1 := hp.n1; have b2 := hp.n2; have b3 := hp.m2; have b4 := hp.v; have b5 := hp.d1; have b6 := hp.d2; have b7 := hp.c; first | omega | (have hq1 := (perm_sorted (by omega) hsosgq2).2 ((perm_swap (by omega) (by omega) hp.perm).congr fun k k0 k1 => (catN2 t.nb t.nf t.B t.F k0).symm) i (by omega) (by omega); omega)), hS.nl⟩
           ·
            refine zsk <| zbn <| ztn <| zrg ?_
            refine zlv (xadd (r := i + 1)) ?_
            refine zlv xmv ?_
            refine zln <| zlq ⟨i + 1, rfl, (by omega), (by omega), ?_, rfl, hS⟩
            ·
             intro k h0' h1'; rcases Int.lt_or_eq_of_le (show k ≤ i by omega) with hk | hk; exact hall k h0' hk; rw [hk]; omega
          ·
           refine zxt <| ztx <| ztx <| zbh <| ztn <| zsq <| zrg ?_
           refine zla (xal (cs := [_]) el_141 hS) ?_; rintro _ w ⟨g3, rfl, hS⟩
           replace hS : Sat w0 w [.blk _ [_, _, _, _, _], .blk _ [_], _, _, .blk _ [_], _, .blk _ [_]] := hS
           refine zle (xsb 6 pl_141 hS) ?_; clear hS; rintro w hS
           replace hS : Sat w0 w [.blk _ [_, _, _, _, _], .blk _ [_], _, _, .blk _ [_], _, .blk _ [_]] := hS
           refine zln <| ztn <| zsq <| zrg ?_
           refine zlv (xfb 4 fd_28_4) ?_
           refine zlv (xlb 0 pl_23 hS) ?_
           refine zlv xmf ?_
           refine zlc (xc0 cl_78) (c_comg (n := t.nc) (q := t.nf) (vv := vv) (ln := t.ln) (f := t.C) w (hT.C.below hS.below) (hS.cellN 1 rfl rfl) (by omega) (hS.cellN 6 rfl rfl)) ?_; rintro _ w ⟨rfl, hS'⟩
           replace hS := hS.cmp hS'; clear hS'
           refine zlv xnot ?_
           refine zlv xas ?_
           refine zln <| ztn <| zrt <| zf1 ⟨_, rfl, ?_⟩
           refine ⟨B_congr ⟨fun hx => ?_, fun hp hx => ?_⟩, hS.nl⟩
           · refine ⟨by omega, by omega, by omega, by omega, by omega, by omega, by omega, perm_swap (by omega) (by omega) (((perm_sorted (by omega) hsosgq2).1 fun k k0 k1 => hall k k0 (by omega)).congr fun k k0 k1 => catN2 t.nb t.nf t.B t.F k0), fun k k0 k1 => ?_⟩
             have hy := Classical.not_not.1 fun hh => hx ⟨k, k0, k1, hh⟩
             exact ⟨hy.1, hy.2⟩
           · obtain ⟨k, k0, k1, hh⟩ := hx
             have hr := hp.rows k k0 k1
             exact hh ⟨hr.1, hr.2⟩

set_option maxRecDepth 20000 in
theorem c_frac {vB vF vC : Value} {vv : Int → Value} {t : Tb} (w0 : World) (hT : TAt w0 vB vF vC vv t) :
    Calls Try.prog 16 [.agg #[.int .i64 t.vars, .int .i64 t.den, vB, vF, vC]].toArray w0 fun e w => ∃ v, e = .returned v ∧ ∃ (r : Int) (ok : Prop) (e : Int), v = .tuple #[.int .i64 r, B ok, .int .i64 e] ∧ FracR t r ok e ∧ Sat w0 w [] := by
  have hn := hT.F.slh.n0; have hn1 := hT.F.slh.n1; have hb := hT.B.slh.n0; have hb1 := hT.B.slh.n1; have hc0 := hT.C.row.slh.n0; have hc1 := hT.C.row.slh.n1
  refine zenG Try.func16 Try.ntmps16 fun w hS => ?_
  refine zsq <| zrg ?_
  refine zla (xbx (cs := [_, _, _, _, _]) hS) ?_; rintro _ w ⟨g1, rfl, hS⟩
  replace hS : Sat w0 w [.blk _ [_, _, _, _, _]] := hS
  iterate 3 refine zlv xas ?_
  refine zln <| ztn <| zsq <| zsq <| zrg ?_
  refine zlv (xls 0 st_28 hS) ?_
  refine zlc (xc0 cl_61) (c_gproper (t := t) w (hT.below hS.below)) ?_; rintro _ w ⟨rfl, hS'⟩
  replace hS := hS.cmp hS'; clear hS'
  refine zlv xnot ?_
  refine zln <| ztn ?_
  refine zcif ?_ ?_ <;> intro hc
  ·
   refine zsq <| zrg ?_
   iterate 3 refine zlv xas ?_
   refine zln <| ztn <| zrt <| ztr <| zf3 ⟨_, rfl, ?_⟩
   exact ⟨0, False, 1, by rw [B_false not_false], .inl ⟨by assumption, rfl, not_false, rfl⟩, hS.nl⟩
  ·
   refine zsk <| ztn <| zsq <| zrg ?_
   refine zlv xas ?_
   refine zln <| ztn <| zsq <| zsq <| zrg ?_
   refine zlv (xfb 2 fd_28_2) ?_
   have hp : TPrp t := by first | assumption | exact Classical.not_not.1 ‹¬ ¬ (TPrp t)›
   have b1 := hp.n1
   have b2 := hp.n2
   have b3 := hp.m2
   have b4 := hp.v
   have b5 := hp.d1
   have b6 := hp.d2
   have b7 := hp.c
   refine zlv (xlb 0 pl_22 hS) ?_
   refine zlv (xln sl_22 hT.B.slh) ?_
   refine zlv xmv ?_
   refine zln <| ztn <| zbk <| zlp (fun mm M w => ∃ (r : Int) (i : Int), mm = ((t.nb - i).toNat) ∧ (0 ≤ i) ∧ (i ≤ t.nb) ∧ (r = gfr t i.toNat) ∧ M = [(1, .pointer (some ⟨g1, 0, none⟩)), (2, .int .i64 r), (3, .bool false), (4, .int .i64 0), (11, vB), (12, .int .i64 t.nb), (13, .int .i64 i)] ∧ Sat w0 w [.blk g1 [.int .i64 t.vars, .int .i64 t.den, vB, vF, vC]]) ⟨(-1), 0, rfl, (by omega), (by omega), ?_, rfl, hS⟩ ?_
   ·
    rfl
   ·
    clear hS w
    rintro mm M w ⟨r, i, rfl, h0, h1, hr, rfl, hS⟩
    have hrr := gfr_rng t i.toNat; rw [← hr] at hrr
    refine zsq <| zrg ?_
    refine zlv xlss ?_
    refine zln <| ztn <| zsq ?_
    refine zcif ?_ ?_ <;> intro hc
    ·
     refine zsk <| ztn <| zsq <| zbk <| zsq <| zrg ?_
     refine zlv xmv ?_
     refine zlv (xix (kk := i) sl_22 hT.B.slh) ?_
     refine zlv (xlr (u := .int .i64 (t.B i)) pl_3 (hT.B.below hS.below)) ?_
     iterate 2 refine zlv xas ?_
     refine zln <| ztn <| zsq ?_
     refine zdst [0] [0] 1000 mx_ hS ?_; clear hS; intro w hS
     refine zdv 0 (fun _ => xmv) ?_
     refine zdv 1 (fun _ => (xfb 0 fd_28_0)) ?_
     refine zdla 2 (fun w hS => (xlb 0 pl_3 hS)) ?_
     refine zdv 3 (fun _ => xlss) ?_
     refine zdv 4 (fun _ => xmv) ?_
     refine zdb 22 ?_ ?_ <;> intro hc
     ·
      refine zdv 5 (fun _ => (xfb 4 fd_28_4)) ?_
      refine zdla 6 (fun w hS => (xlb 0 pl_23 hS)) ?_
      have hlen := hp.len (i := i + 1) (by omega) (by omega)
      refine zdv 7 (fun _ => xmv) ?_
      refine zdv 8 (fun _ => (xadd (r := i + 1))) ?_
      refine zdv 9 (fun _ => (xix (kk := i + 1) sl_23 hT.C.row.slh)) ?_
      refine zdla 10 (fun w hS => (xlr (u := (vv (i + 1))) pl_22 (hT.C.row.below hS.below))) ?_
      refine zdv 11 (fun _ => (xix (kk := 0) sl_22 (hT.C.p (i + 1) (by omega) (by omega)).slh)) ?_
      refine zdla 12 (fun w hS => (xlr (u := .int .i64 ((t.C (i + 1)) 0)) pl_3 ((hT.C.p (i + 1) (by omega) (by omega)).below hS.below))) ?_
      refine zdv 13 (fun _ => (xfb 1 fd_28_1)) ?_
      refine zdla 14 (fun w hS => (xlb 0 pl_3 hS)) ?_
      refine zdv 15 (fun _ => (xrem (r := (Int.tmod ((t.C (i + 1)) 0) t.den)))) ?_
      refine zdv 16 (fun _ => xneq) ?_
      refine zdv 17 (fun _ => xpt) ?_
      refine zdv 18 (fun _ => xmv) ?_
      refine zdb 36 ?_ ?_ <;> intro hc
      ·
       refine zdv 19 (fun _ => xmv) ?_
       refine zdv 20 (fun _ => xlss) ?_
       refine zdv 21 (fun _ => xmv) ?_
       refine zdb 39 ?_ ?_ <;> intro hc
       ·
        refine zdof 22 ?_
        refine zdof 23 ?_
        refine zdof 24 ?_
        refine zdof 25 ?_
        refine zdof 26 ?_
        refine zdof 27 ?_
        refine zdof 28 ?_
        refine zdv 29 (fun _ => xpt) ?_
        refine zdv 30 (fun _ => xpt) ?_
        refine zdd <| ztn <| zct <| zrg ?_
        refine zlv xmv ?_
        refine zlv xas ?_
        refine zln <| zbn <| ztn <| zrg ?_
        refine zlv (xadd (r := i + 1)) ?_
        refine zlv xmv ?_
        refine zln <| zlq ⟨i, i + 1, rfl, (by omega), (by omega), ?_, rfl, hS⟩
        ·
         rw [gfr_next t h0, ← hr]; split <;> omega
       ·
        refine zdv 22 (fun _ => xmv) ?_
        refine zdv 23 (fun _ => (xfb 2 fd_28_2)) ?_
        refine zdla 24 (fun w hS => (xlb 0 pl_22 hS)) ?_
        refine zdv 25 (fun _ => xmv) ?_
        refine zdv 26 (fun _ => (xix (kk := r) sl_22 hT.B.slh)) ?_
        refine zdla 27 (fun w hS => (xlr (u := .int .i64 (t.B r)) pl_3 (hT.B.below hS.below))) ?_
        refine zdv 28 (fun _ => xlss) ?_
        refine zdv 29 (fun _ => xpf) ?_
        refine zdv 30 (fun _ => xpt) ?_
        refine zdd <| ztn ?_
        refine zcif ?_ ?_ <;> intro hc
        ·
         refine zrg ?_
         refine zlv xmv ?_
         refine zlv xas ?_
         refine zln <| zbn <| ztn <| zrg ?_
         refine zlv (xadd (r := i + 1)) ?_
         refine zlv xmv ?_
         refine zln <| zlq ⟨i, i + 1, rfl, (by omega), (by omega), ?_, rfl, hS⟩
         ·
          rw [gfr_next t h0, ← hr]; split <;> omega
        ·
         refine zsk <| zbn <| ztn <| zrg ?_
         refine zlv (xadd (r := i + 1)) ?_
         refine zlv xmv ?_
         refine zln <| zlq ⟨r, i + 1, rfl, (by omega), (by omega), ?_, rfl, hS⟩
         ·
          rw [gfr_next t h0, ← hr]; split <;> omega
      ·
       refine zdof 19 ?_
       refine zdof 20 ?_
       refine zdof 21 ?_
       refine zdof 22 ?_
       refine zdof 23 ?_
       refine zdof 24 ?_
       refine zdof 25 ?_
       refine zdof 26 ?_
       refine zdof 27 ?_
       refine zdof 28 ?_
       refine zdof 29 ?_
       refine zdv 30 (fun _ => xpf) ?_
       refine zdd <| ztn <| zcf <| zsk <| zbn <| ztn <| zrg ?_
       refine zlv (xadd (r := i + 1)) ?_
       refine zlv xmv ?_
       refine zln <| zlq ⟨r, i + 1, rfl, (by omega), (by omega), ?_, rfl, hS⟩
       ·
        rw [gfr_next t h0, ← hr]; split <;> omega
     ·
      refine zdof 5 ?_
      refine zdof 6 ?_
      refine zdof 7 ?_
      refine zdof 8 ?_
      refine zdof 9 ?_
      refine zdof 10 ?_
      refine zdof 11 ?_
      refine zdof 12 ?_
      refine zdof 13 ?_
      refine zdof 14 ?_
      refine zdof 15 ?_
      refine zdof 16 ?_
      refine zdv 17 (fun _ => xpf) ?_
      refine zdv 18 (fun _ => xmv) ?_
      refine zdof 19 ?_
      refine zdof 20 ?_
      refine zdof 21 ?_
      refine zdof 22 ?_
      refine zdof 23 ?_
      refine zdof 24 ?_
      refine zdof 25 ?_
      refine zdof 26 ?_
      refine zdof 27 ?_
      refine zdof 28 ?_
      refine zdof 29 ?_
      refine zdv 30 (fun _ => xpf) ?_
      refine zdd <| ztn <| zcf <| zsk <| zbn <| ztn <| zrg ?_
      refine zlv (xadd (r := i + 1)) ?_
      refine zlv xmv ?_
      refine zln <| zlq ⟨r, i + 1, rfl, (by omega), (by omega), ?_, rfl, hS⟩
      ·
       rw [gfr_next t h0, ← hr]; split <;> omega
    ·
     refine zxt <| ztx <| ztx <| zbh <| ztn <| zsq <| zrg ?_
     refine zlv xmv ?_
     refine zlv (xmax (r := (max r 0))) ?_
     refine zlv xmv ?_
     refine zlv xgeq ?_
     iterate 3 refine zlv xas ?_
     refine zln <| ztn <| zrt <| zf3 ⟨_, rfl, ?_⟩
     obtain rfl : i = t.nb := by omega
     exact ⟨_, _, _, rfl, .inr ⟨hp, by rw [← hr], by rw [← hr], rfl⟩, hS.nl⟩

set_option maxRecDepth 20000 in
theorem c_rfrac {vB vF vC : Value} {vv : Int → Value} {t : Tb} (w0 : World) (hT : TAt w0 vB vF vC vv t) :
    Calls Try.prog 17 [.agg #[.int .i64 t.vars, .int .i64 t.den, vB, vF, vC]].toArray w0 fun e w => ∃ v, e = .returned v ∧ ∃ (r : Int) (ok : Prop) (e : Int), v = .tuple #[.int .i64 r, B ok, .int .i64 e] ∧ FracR t r ok e ∧ Sat w0 w [] := by
  have hn := hT.F.slh.n0; have hn1 := hT.F.slh.n1; have hb := hT.B.slh.n0; have hb1 := hT.B.slh.n1; have hc0 := hT.C.row.slh.n0; have hc1 := hT.C.row.slh.n1
  refine zenG Try.func17 Try.ntmps17 fun w hS => ?_
  refine zsq <| zrg ?_
  refine zla (xbx (cs := [_, _, _, _, _]) hS) ?_; rintro _ w ⟨g1, rfl, hS⟩
  replace hS : Sat w0 w [.blk _ [_, _, _, _, _]] := hS
  iterate 3 refine zlv xas ?_
  refine zln <| ztn <| zsq <| zsq <| zrg ?_
  refine zlv (xls 0 st_25 hS) ?_
  refine zlc (xc0 cl_62) (c_rproper (t := t) w (hT.below hS.below)) ?_; rintro _ w ⟨rfl, hS'⟩
  replace hS := hS.cmp hS'; clear hS'
  refine zlv xnot ?_
  refine zln <| ztn ?_
  refine zcif ?_ ?_ <;> intro hc
  ·
   refine zsq <| zrg ?_
   iterate 3 refine zlv xas ?_
   refine zln <| ztn <| zrt <| ztr <| zf3 ⟨_, rfl, ?_⟩
   exact ⟨0, False, 1, by rw [B_false not_false], .inl ⟨by assumption, rfl, not_false, rfl⟩, hS.nl⟩
  ·
   refine zsk <| ztn <| zsq <| zrg ?_
   refine zlv xas ?_
   refine zln <| ztn <| zsq <| zsq <| zrg ?_
   refine zlv xas ?_
   refine zln <| ztn <| zbk ?_
   have hp : TPrp t := by first | assumption | exact Classical.not_not.1 ‹¬ ¬ (TPrp t)›
   have b1 := hp.n1
   have b2 := hp.n2
   have b3 := hp.m2
   have b4 := hp.v
   have b5 := hp.d1
   have b6 := hp.d2
   have b7 := hp.c
   refine zlp (fun mm M w => ∃ (r : Int) (i : Int), mm = ((t.nb - i).toNat) ∧ (0 ≤ i) ∧ (i ≤ t.nb) ∧ (r = gfr t i.toNat) ∧ M = [(1, .pointer (some ⟨g1, 0, none⟩)), (2, .int .i64 0), (3, .bool false), (4, .int .i64 0), (5, .int .i64 r), (6, .int .i64 i)] ∧ Sat w0 w [.blk g1 [.int .i64 t.vars, .int .i64 t.den, vB, vF, vC]]) ⟨(-1), 0, rfl, (by omega), (by omega), ?_, rfl, hS⟩ ?_
   ·
    rfl
   ·
    clear hS w
    rintro mm M w ⟨r, i, rfl, h0, h1, hr, rfl, hS⟩
    have hrr := gfr_rng t i.toNat; rw [← hr] at hrr
    refine zsq <| zsq <| zrg ?_
    refine zlv xmv ?_
    refine zlv (xfb 2 fd_25_2) ?_
    refine zlv (xlb 0 pl_22 hS) ?_
    refine zlv (xln sl_22 hT.B.slh) ?_
    refine zlv xlss ?_
    refine zln <| ztn ?_
    refine zcif ?_ ?_ <;> intro hc
    ·
     refine zsk <| ztn <| zsq <| zbk <| zsq ?_
     refine zdst [0] [0] 1000 mx_ hS ?_; clear hS; intro w hS
     refine zdv 0 (fun _ => (xfb 2 fd_25_2)) ?_
     refine zdla 1 (fun w hS => (xlb 0 pl_22 hS)) ?_
     refine zdv 2 (fun _ => xmv) ?_
     refine zdv 3 (fun _ => (xix (kk := i) sl_22 hT.B.slh)) ?_
     refine zdla 4 (fun w hS => (xlr (u := .int .i64 (t.B i)) pl_3 (hT.B.below hS.below))) ?_
     refine zdv 5 (fun _ => (xfb 0 fd_25_0)) ?_
     refine zdla 6 (fun w hS => (xlb 0 pl_3 hS)) ?_
     refine zdv 7 (fun _ => xlss) ?_
     refine zdv 8 (fun _ => xmv) ?_
     refine zdb 25 ?_ ?_ <;> intro hc
     ·
      refine zdv 9 (fun _ => (xfb 4 fd_25_4)) ?_
      refine zdla 10 (fun w hS => (xlb 0 pl_23 hS)) ?_
      have hlen := hp.len (i := i + 1) (by omega) (by omega)
      refine zdv 11 (fun _ => xmv) ?_
      refine zdv 12 (fun _ => (xadd (r := i + 1))) ?_
      refine zdv 13 (fun _ => (xix (kk := i + 1) sl_23 hT.C.row.slh)) ?_
      refine zdla 14 (fun w hS => (xlr (u := (vv (i + 1))) pl_22 (hT.C.row.below hS.below))) ?_
      refine zdv 15 (fun _ => (xix (kk := 0) sl_22 (hT.C.p (i + 1) (by omega) (by omega)).slh)) ?_
      refine zdla 16 (fun w hS => (xlr (u := .int .i64 ((t.C (i + 1)) 0)) pl_3 ((hT.C.p (i + 1) (by omega) (by omega)).below hS.below))) ?_
      refine zdv 17 (fun _ => (xfb 1 fd_25_1)) ?_
      refine zdla 18 (fun w hS => (xlb 0 pl_3 hS)) ?_
      refine zdv 19 (fun _ => (xrem (r := (Int.tmod ((t.C (i + 1)) 0) t.den)))) ?_
      refine zdv 20 (fun _ => xneq) ?_
      refine zdv 21 (fun _ => xpt) ?_
      refine zdv 22 (fun _ => xmv) ?_
      refine zdb 39 ?_ ?_ <;> intro hc
      ·
       refine zdv 23 (fun _ => xmv) ?_
       refine zdv 24 (fun _ => xlss) ?_
       refine zdv 25 (fun _ => xmv) ?_
       refine zdb 42 ?_ ?_ <;> intro hc
       ·
        refine zdof 26 ?_
        refine zdof 27 ?_
        refine zdof 28 ?_
        refine zdof 29 ?_
        refine zdof 30 ?_
        refine zdof 31 ?_
        refine zdof 32 ?_
        refine zdof 33 ?_
        refine zdof 34 ?_
        refine zdof 35 ?_
        refine zdof 36 ?_
        refine zdv 37 (fun _ => xpt) ?_
        refine zdv 38 (fun _ => xpt) ?_
        refine zdd <| ztn <| zct <| zrg ?_
        refine zlv xmv ?_
        refine zlv xas ?_
        refine zln <| zbn <| ztn <| zrg ?_
        refine zlv xmv ?_
        refine zlv (xadd (r := i + 1)) ?_
        refine zlv xas ?_
        refine zln <| zlq ⟨i, i + 1, rfl, (by omega), (by omega), ?_, rfl, hS⟩
        ·
         rw [gfr_next t h0, ← hr]; split <;> omega
       ·
        refine zdv 26 (fun _ => (xfb 2 fd_25_2)) ?_
        refine zdla 27 (fun w hS => (xlb 0 pl_22 hS)) ?_
        refine zdv 28 (fun _ => xmv) ?_
        refine zdv 29 (fun _ => (xix (kk := i) sl_22 hT.B.slh)) ?_
        refine zdla 30 (fun w hS => (xlr (u := .int .i64 (t.B i)) pl_3 (hT.B.below hS.below))) ?_
        refine zdv 31 (fun _ => (xfb 2 fd_25_2)) ?_
        refine zdla 32 (fun w hS => (xlb 0 pl_22 hS)) ?_
        refine zdv 33 (fun _ => xmv) ?_
        refine zdv 34 (fun _ => (xix (kk := r) sl_22 hT.B.slh)) ?_
        refine zdla 35 (fun w hS => (xlr (u := .int .i64 (t.B r)) pl_3 (hT.B.below hS.below))) ?_
        refine zdv 36 (fun _ => xlss) ?_
        refine zdv 37 (fun _ => xpf) ?_
        refine zdv 38 (fun _ => xpt) ?_
        refine zdd <| ztn ?_
        refine zcif ?_ ?_ <;> intro hc
        ·
         refine zrg ?_
         refine zlv xmv ?_
         refine zlv xas ?_
         refine zln <| zbn <| ztn <| zrg ?_
         refine zlv xmv ?_
         refine zlv (xadd (r := i + 1)) ?_
         refine zlv xas ?_
         refine zln <| zlq ⟨i, i + 1, rfl, (by omega), (by omega), ?_, rfl, hS⟩
         ·
          rw [gfr_next t h0, ← hr]; split <;> omega
        ·
         refine zsk <| zbn <| ztn <| zrg ?_
         refine zlv xmv ?_
         refine zlv (xadd (r := i + 1)) ?_
         refine zlv xas ?_
         refine zln <| zlq ⟨r, i + 1, rfl, (by omega), (by omega), ?_, rfl, hS⟩
         ·
          rw [gfr_next t h0, ← hr]; split <;> omega
      ·
       refine zdof 23 ?_
       refine zdof 24 ?_
       refine zdof 25 ?_
       refine zdof 26 ?_
       refine zdof 27 ?_
       refine zdof 28 ?_
       refine zdof 29 ?_
       refine zdof 30 ?_
       refine zdof 31 ?_
       refine zdof 32 ?_
       refine zdof 33 ?_
       refine zdof 34 ?_
       refine zdof 35 ?_
       refine zdof 36 ?_
       refine zdof 37 ?_
       refine zdv 38 (fun _ => xpf) ?_
       refine zdd <| ztn <| zcf <| zsk <| zbn <| ztn <| zrg ?_
       refine zlv xmv ?_
       refine zlv (xadd (r := i + 1)) ?_
       refine zlv xas ?_
       refine zln <| zlq ⟨r, i + 1, rfl, (by omega), (by omega), ?_, rfl, hS⟩
       ·
        rw [gfr_next t h0, ← hr]; split <;> omega
     ·
      refine zdof 9 ?_
      refine zdof 10 ?_
      refine zdof 11 ?_
      refine zdof 12 ?_
      refine zdof 13 ?_
      refine zdof 14 ?_
      refine zdof 15 ?_
      refine zdof 16 ?_
      refine zdof 17 ?_
      refine zdof 18 ?_
      refine zdof 19 ?_
      refine zdof 20 ?_
      refine zdv 21 (fun _ => xpf) ?_
      refine zdv 22 (fun _ => xmv) ?_
      refine zdof 23 ?_
      refine zdof 24 ?_
      refine zdof 25 ?_
      refine zdof 26 ?_
      refine zdof 27 ?_
      refine zdof 28 ?_
      refine zdof 29 ?_
      refine zdof 30 ?_
      refine zdof 31 ?_
      refine zdof 32 ?_
      refine zdof 33 ?_
      refine zdof 34 ?_
      refine zdof 35 ?_
      refine zdof 36 ?_
      refine zdof 37 ?_
      refine zdv 38 (fun _ => xpf) ?_
      refine zdd <| ztn <| zcf <| zsk <| zbn <| ztn <| zrg ?_
      refine zlv xmv ?_
      refine zlv (xadd (r := i + 1)) ?_
      refine zlv xas ?_
      refine zln <| zlq ⟨r, i + 1, rfl, (by omega), (by omega), ?_, rfl, hS⟩
      ·
       rw [gfr_next t h0, ← hr]; split <;> omega
    ·
     refine zxt <| ztx <| ztx <| zbh <| ztn <| zsq <| zrg ?_
     refine zlv xmv ?_
     refine zlv (xmax (r := (max r 0))) ?_
     refine zlv xmv ?_
     refine zlv xgeq ?_
     iterate 3 refine zlv xas ?_
     refine zln <| ztn <| zrt <| zf3 ⟨_, rfl, ?_⟩
     obtain rfl : i = t.nb := by omega
     exact ⟨_, _, _, rfl, .inr ⟨hp, by rw [← hr], by rw [← hr], rfl⟩, hS.nl⟩

theorem c_rem {a d : Int} (w0 : World) (h1 : 1 ≤ d) (h2 : d ≤ 1073741824) :
    Calls Try.prog 63 [.int .i64 a, .int .i64 d].toArray w0 fun e w => ∃ v, e = .returned v ∧ v = .int .i64 (rmd a d) ∧ Sat w0 w [] := by
  have hm1 := tmod_rng (a := a) h1; have hm2 := tmod_rng (a := a.tmod d + d) h1
  refine zenG Try.func63 Try.ntmps63 fun w hS => ?_
  refine zsq <| zrg ?_
  refine zlv xas ?_
  refine zln <| ztn <| zsq <| zrg ?_
  iterate 2 refine zlv xmv ?_
  refine zlv (xrem (r := (Int.tmod a d))) ?_
  refine zlv xmv ?_
  refine zlv (xadd (r := (Int.tmod a d) + d)) ?_
  refine zlv xmv ?_
  refine zlv (xrem (r := (Int.tmod ((Int.tmod a d) + d) d))) ?_
  refine zlv xas ?_
  refine zln <| ztn <| zrt <| zf1 ⟨_, rfl, ?_⟩
  exact ⟨rfl, hS⟩

theorem c_mod {a d : Int} (w0 : World) (h1 : 1 ≤ d) (h2 : d ≤ 1073741824) :
    Calls Try.prog 64 [.int .i64 a, .int .i64 d].toArray w0 fun e w => ∃ v, e = .returned v ∧ v = .int .i64 (rmd a d) ∧ Sat w0 w [] := by
  have hm1 := tmod_rng (a := a) h1; have hm2 := tmod_rng (a := a.tmod d + d) h1
  refine zenG Try.func64 Try.ntmps64 fun w hS => ?_
  refine zsq <| zrg ?_
  refine zlv xas ?_
  refine zln <| ztn <| zsq <| zrg ?_
  iterate 2 refine zlv xmv ?_
  refine zlv (xrem (r := (Int.tmod a d))) ?_
  refine zlv xmv ?_
  refine zlv (xadd (r := (Int.tmod a d) + d)) ?_
  refine zlv xmv ?_
  refine zlv (xrem (r := (Int.tmod ((Int.tmod a d) + d) d))) ?_
  refine zlv xas ?_
  refine zln <| ztn <| zrt <| zf1 ⟨_, rfl, ?_⟩
  exact ⟨rfl, hS⟩

set_option maxRecDepth 20000 in
theorem c_cut {vB vF vC : Value} {vv : Int → Value} {t : Tb} {row : Int} (w0 : World) (hT : TAt w0 vB vF vC vv t) (hrow0 : -9223372036854775808 ≤ row ∧ row ≤ 9223372036854775807) :
    Calls Try.prog 18 [.agg #[.int .i64 t.vars, .int .i64 t.den, vB, vF, vC], .int .i64 row].toArray w0 fun e w => ∃ v, e = .returned v ∧ ∃ r n f e, v = .tuple #[r, .int .i64 e] ∧ CutR t row n f e ∧ Slh r n ∧ Sat w0 w [.own r 1 3 n (ints f)] := by
  have hn := hT.F.slh.n0; have hn1 := hT.F.slh.n1; have hb := hT.B.slh.n0; have hb1 := hT.B.slh.n1; have hc0 := hT.C.row.slh.n0; have hc1 := hT.C.row.slh.n1
  refine zenG Try.func18 Try.ntmps18 fun w hS => ?_
  refine zsq <| zrg ?_
  refine zla (xbx (cs := [_, _, _, _, _]) hS) ?_; rintro _ w ⟨g1, rfl, hS⟩
  replace hS : Sat w0 w [.blk _ [_, _, _, _, _]] := hS
  iterate 2 refine zlv xas ?_
  refine zln <| ztn <| zsq <| zbk <| zsq <| zrg ?_
  refine zlv (xls 0 st_28 hS) ?_
  refine zlc (xc0 cl_61) (c_gproper (t := t) w (hT.below hS.below)) ?_; rintro _ w ⟨rfl, hS'⟩
  replace hS := hS.cmp hS'; clear hS'
  refine zlv xnot ?_
  refine zlv xas ?_
  refine zln <| ztn ?_
  refine zcif ?_ ?_ <;> intro hc
  ·
   refine zsq <| zrg ?_
   iterate 2 refine zlv xas ?_
   refine zln <| ztn <| zrt <| zbr <| ztr <| zf2 ⟨_, rfl, ?_⟩
   exact ⟨_, 0, fun _ => 0, 1, rfl, .inl ⟨by assumption, rfl, rfl⟩, slh_nil, (hS.addnil 1 3 (ints fun _ => 0)).sub (.cons _ (.cons_cons _ .slnil))⟩
  ·
   refine zsq <| zrg ?_
   refine zlv xmv ?_
   have hp : TPrp t := by first | assumption | exact Classical.not_not.1 ‹¬ ¬ (TPrp t)›
   have b1 := hp.n1
   have b2 := hp.n2
   have b3 := hp.m2
   have b4 := hp.v
   have b5 := hp.d1
   have b6 := hp.d2
   have b7 := hp.c
   refine zlv xlss ?_
   refine zlv xmv ?_
   refine zlb 17 ?_ ?_ <;> intro hc
   ·
    iterate 5 refine zlo ?_
    refine zlv xpt ?_
    refine zlv xas ?_
    refine zln <| ztn <| zct <| zsq <| zrg ?_
    iterate 2 refine zlv xas ?_
    refine zln <| ztn <| zrt <| zbr <| ztr <| zf2 ⟨_, rfl, ?_⟩
    exact ⟨_, 0, fun _ => 0, 2, rfl, .inr (.inl ⟨hp, by omega, rfl, rfl⟩), slh_nil, (hS.addnil 1 3 (ints fun _ => 0)).sub (.cons _ (.cons_cons _ .slnil))⟩
   ·
    refine zlv xmv ?_
    refine zlv (xfb 2 fd_28_2) ?_
    refine zlv (xlb 0 pl_22 hS) ?_
    refine zlv (xln sl_22 hT.B.slh) ?_
    refine zlv xgeq ?_
    refine zlv xpf ?_
    refine zlv xas ?_
    refine zln <| ztn ?_
    refine zcif ?_ ?_ <;> intro hc
    ·
     refine zsq <| zrg ?_
     iterate 2 refine zlv xas ?_
     refine zln <| ztn <| zrt <| zbr <| ztr <| zf2 ⟨_, rfl, ?_⟩
     exact ⟨_, 0, fun _ => 0, 2, rfl, .inr (.inl ⟨hp, by omega, rfl, rfl⟩), slh_nil, (hS.addnil 1 3 (ints fun _ => 0)).sub (.cons _ (.cons_cons _ .slnil))⟩
    ·
     refine zsq ?_
     refine zdst [0] [0] 1000 mx_ hS ?_; clear hS; intro w hS
     refine zdv 0 (fun _ => (xfb 4 fd_28_4)) ?_
     have hlr := hp.len (i := row + 1) (by omega) (by omega)
     refine zdla 1 (fun w hS => (xlb 0 pl_23 hS)) ?_
     refine zdv 2 (fun _ => xmv) ?_
     refine zdv 3 (fun _ => (xadd (r := row + 1))) ?_
     refine zdv 4 (fun _ => (xix (kk := row + 1) sl_23 hT.C.row.slh)) ?_
     refine zdla 5 (fun w hS => (xlr (u := (vv (row + 1))) pl_22 (hT.C.row.below hS.below))) ?_
     refine zdv 6 (fun _ => (xix (kk := 0) sl_22 (hT.C.p (row + 1) (by omega) (by omega)).slh)) ?_
     refine zdla 7 (fun w hS => (xlr (u := .int .i64 ((t.C (row + 1)) 0)) pl_3 ((hT.C.p (row + 1) (by omega) (by omega)).below hS.below))) ?_
     refine zdv 8 (fun _ => (xfb 1 fd_28_1)) ?_
     refine zdla 9 (fun w hS => (xlb 0 pl_3 hS)) ?_
     refine zdv 10 (fun _ => (xrem (r := (Int.tmod ((t.C (row + 1)) 0) t.den)))) ?_
     refine zdv 11 (fun _ => xeql) ?_
     refine zdv 12 (fun _ => xas) ?_
     refine zdd <| ztn ?_
     refine zcif ?_ ?_ <;> intro hc
     ·
      refine zsq <| zrg ?_
      iterate 2 refine zlv xas ?_
      refine zln <| ztn <| zrt <| zbr <| ztr <| zf2 ⟨_, rfl, ?_⟩
      exact ⟨_, 0, fun _ => 0, 8, rfl, .inr (.inr (.inl ⟨hp, by omega, by omega, by omega, rfl, rfl⟩)), slh_nil, (hS.addnil 1 3 (ints fun _ => 0)).sub (.cons _ (.cons_cons _ .slnil))⟩
     ·
      refine zsk <| zbn <| ztn <| zsq <| zrg ?_
      refine zlv (xfb 4 fd_28_4) ?_
      refine zlv (xlb 0 pl_23 hS) ?_
      refine zlv xmv ?_
      refine zlv (xadd (r := row + 1)) ?_
      refine zlv (xix (kk := row + 1) sl_23 hT.C.row.slh) ?_
      refine zlv (xlr (u := (vv (row + 1))) pl_22 (hT.C.row.below hS.below)) ?_
      refine zlv xas ?_
      refine zln <| ztn <| zsq ?_
      refine zdst [0] [0] 1000 mx_ hS ?_; clear hS; intro w hS
      refine zdv 0 (fun _ => xmv) ?_
      refine zdv 1 (fun _ => (xix (kk := 0) sl_22 (hT.C.p (row + 1) (by omega) (by omega)).slh)) ?_
      refine zdla 2 (fun w hS => (xlr (u := .int .i64 ((t.C (row + 1)) 0)) pl_3 ((hT.C.p (row + 1) (by omega) (by omega)).below hS.below))) ?_
      refine zdv 3 (fun _ => (xfb 1 fd_28_1)) ?_
      refine zdla 4 (fun w hS => (xlb 0 pl_3 hS)) ?_
      have hq0 := rmd_rng (a := t.C (row + 1) 0) (d := t.den) (by omega)
      refine zdc 5 (xc0 cl_63) (c_rem (a := ((t.C (row + 1)) 0)) (d := t.den) w (by omega) (by omega)) ?_; rintro _ w ⟨rfl, hS'⟩
      replace hS := hS.cmp hS'; clear hS'
      refine ⟨⟨fun _ => hS, hS⟩, ?_⟩
      refine zdv 6 (fun _ => (xneg (r := -((rmd ((t.C (row + 1)) 0) t.den))))) ?_
      refine zda 7 (xli (n := 1) (len := 1) (pv := [(0, .int .i64 (-((rmd ((t.C (row + 1)) 0) t.den))))]) (cs := [.int .i64 (-((rmd ((t.C (row + 1)) 0) t.den)))]) (c := ints (fun _ => -((rmd ((t.C (row + 1)) 0) t.den)))) sl_22 el_3 hS) ?_; rintro v1 w ⟨hS, hv1⟩
      replace hS : Sat w0 w [.blk _ [_, _, _, _, _], _] := hS
      refine ⟨⟨fun _ => hS.pk [0], hS.pk [0]⟩, ?_⟩
      refine zdv 8 (fun _ => xas) ?_
      refine zdd <| ztn <| zsq <| zsq <| zrg ?_
      refine zlv xmv ?_
      refine zlvr rfl rfl rfl (ex_slice_lo (q := 1) rfl sl_22 rfl rfl rfl (hT.C.p (row + 1) (by omega) (by omega)).slh rfl (by omega) (by omega)) ?_
      refine zlv (xln sl_22 (suf_of (q := 1) (hT.C.p (row + 1) (by omega) (by omega)).slh (hT.C.room (row + 1) (by omega) (by omega)) (by omega)).slh) ?_
      refine zlv xmv ?_
      refine zln <| ztn <| zbk <| zlp (fun mm M w => ∃ (m : Int) (k : Int) (vb : Value) (g : Int → Int), mm = ((t.nf - k).toNat) ∧ (0 ≤ k) ∧ (k ≤ t.nf) ∧ (m = k + 1) ∧ (∀ j, 0 ≤ j → j < m → g j = cutF t row j) ∧ (Slh vb m) ∧ M = [(2, .pointer (some ⟨g1, 0, none⟩)), (4, .slice none 0 0), (5, .int .i64 0), (7, vb), (52, (sufV (vv (row + 1)) 1)), (53, .int .i64 ((t.ln (row + 1)) - 1)), (54, .int .i64 k)] ∧ Sat w0 w [.blk g1 [.int .i64 t.vars, .int .i64 t.den, vB, vF, vC], .own vb 1 3 m (ints g)]) ⟨1, 0, v1, (fun _ => -((rmd ((t.C (row + 1)) 0) t.den))), rfl, (by omega), (by omega), (by omega), ?_, ?_, rfl, hS⟩ ?_
      ·
       intro j j0 j1; obtain rfl : j = 0 := by omega
       rfl
      ·
       exact hv1
      ·
       clear hS w
       rintro mm M w ⟨m, k, vb, g, rfl, h0, h1, hm, hg, hvb, rfl, hS⟩
       refine zsq <| zrg ?_
       refine zlv xlss ?_
       refine zln <| ztn <| zsq ?_
       refine zcif ?_ ?_ <;> intro hc
       ·
        refine zsk <| ztn <| zsq <| zbk <| zsq <| zrg ?_
        refine zlv (xix (kk := k) sl_22 (suf_of (q := 1) (hT.C.p (row + 1) (by omega) (by omega)).slh (hT.C.room (row + 1) (by omega) (by omega)) (by omega)).slh) ?_
        refine zlv (xlr (u := .int .i64 ((t.C (row + 1)) (k + 1))) pl_3 ((suf_of (q := 1) (hT.C.p (row + 1) (by omega) (by omega)).slh (hT.C.room (row + 1) (by omega) (by omega)) (by omega)).row (by omega) ((hT.C.p (row + 1) (by omega) (by omega)).below hS.below))) ?_
        have hcx := hp.cell (i := row + 1) (j := k + 1) (by omega) (by omega) (by omega) (by omega)
        refine zlv xas ?_
        refine zln <| ztn <| zrg ?_
        iterate 2 refine zlv xmv ?_
        refine zlv (xneg (r := -(((t.C (row + 1)) (k + 1))))) ?_
        refine zlv (xfb 1 fd_28_1) ?_
        refine zlv (xlb 0 pl_3 hS) ?_
        refine zlc (xc0 cl_63) (c_rem (a := (-(((t.C (row + 1)) (k + 1))))) (d := t.den) w (by omega) (by omega)) ?_; rintro _ w ⟨rfl, hS'⟩
        replace hS := hS.cmp hS'; clear hS'
        refine zla (xli (n := 1) (len := 1) (pv := [(0, .int .i64 (rmd (-(((t.C (row + 1)) (k + 1)))) t.den))]) (cs := [.int .i64 (rmd (-(((t.C (row + 1)) (k + 1)))) t.den)]) (c := ints (fun _ => (rmd (-(((t.C (row + 1)) (k + 1)))) t.den))) sl_22 el_3 hS) ?_; rintro v2 w ⟨hS, hv2⟩
        replace hS : Sat w0 w [.blk _ [_, _, _, _, _], _, _] := hS
        refine zla (xap 1 (r := m + 1) sl_22 el_3 hS (hS.rowN 2 rfl) (cat_snoc _ _ _)) ?_; rintro v3 w ⟨hS, hv3⟩
        replace hS : Sat w0 w [.blk _ [_, _, _, _, _], _, _] := hS
        refine zlv xas ?_
        refine zln <| zbn <| ztn <| zrg ?_
        refine zlv (xadd (r := k + 1)) ?_
        refine zlv xmv ?_
        refine zln <| zlq ⟨m + 1, k + 1, v3, (snoc g m (rmd (-(((t.C (row + 1)) (k + 1)))) t.den)), rfl, (by omega), (by omega), (by omega), ?_, ?_, rfl, hS.pk [0, 1]⟩
        ·
         intro j j0 j1; by_cases e : j < m
         · rw [snoc_lt e]; exact hg j j0 e
         · rw [snoc_at e]; unfold cutF; rw [if_neg (by omega), show j = k + 1 by omega]
        ·
         exact hv3
       ·
        refine zxt <| ztx <| ztx <| zbh <| ztn <| zsq <| zrg ?_
        refine zlv xmv ?_
        iterate 2 refine zlv xas ?_
        refine zln <| ztn <| zrt <| zf2 ⟨_, rfl, ?_⟩
        exact ⟨_, m, g, 0, rfl, .inr (.inr (.inr ⟨hp, by omega, by omega, by omega, by omega, hg, rfl⟩)), hvb, hS.pk [1]⟩

set_option maxRecDepth 20000 in
theorem c_rcut {vB vF vC : Value} {vv : Int → Value} {t : Tb} {row : Int} (w0 : World) (hT : TAt w0 vB vF vC vv t) (hrow0 : -9223372036854775808 ≤ row ∧ row ≤ 9223372036854775807) :
    Calls Try.prog 19 [.agg #[.int .i64 t.vars, .int .i64 t.den, vB, vF, vC], .int .i64 row].toArray w0 fun e w => ∃ v, e = .returned v ∧ ∃ r n f e, v = .tuple #[r, .int .i64 e] ∧ CutR t row n f e ∧ Slh r n ∧ Sat w0 w [.own r 1 3 n (ints f)] := by
  have hn := hT.F.slh.n0; have hn1 := hT.F.slh.n1; have hb := hT.B.slh.n0; have hb1 := hT.B.slh.n1; have hc0 := hT.C.row.slh.n0; have hc1 := hT.C.row.slh.n1
  refine zenG Try.func19 Try.ntmps19 fun w hS => ?_
  refine zsq <| zrg ?_
  refine zla (xbx (cs := [_, _, _, _, _]) hS) ?_; rintro _ w ⟨g1, rfl, hS⟩
  replace hS : Sat w0 w [.blk _ [_, _, _, _, _]] := hS
  iterate 2 refine zlv xas ?_
  refine zln <| ztn <| zsq <| zbk <| zsq <| zrg ?_
  refine zlv (xls 0 st_25 hS) ?_
  refine zlc (xc0 cl_62) (c_rproper (t := t) w (hT.below hS.below)) ?_; rintro _ w ⟨rfl, hS'⟩
  replace hS := hS.cmp hS'; clear hS'
  refine zlv xnot ?_
  refine zlv xas ?_
  refine zln <| ztn ?_
  refine zcif ?_ ?_ <;> intro hc
  ·
   refine zsq <| zrg ?_
   iterate 2 refine zlv xas ?_
   refine zln <| ztn <| zrt <| zbr <| ztr <| zf2 ⟨_, rfl, ?_⟩
   exact ⟨_, 0, fun _ => 0, 1, rfl, .inl ⟨by assumption, rfl, rfl⟩, slh_nil, (hS.addnil 1 3 (ints fun _ => 0)).sub (.cons _ (.cons_cons _ .slnil))⟩
  ·
   refine zsq <| zrg ?_
   refine zlv xmv ?_
   have hp : TPrp t := by first | assumption | exact Classical.not_not.1 ‹¬ ¬ (TPrp t)›
   have b1 := hp.n1
   have b2 := hp.n2
   have b3 := hp.m2
   have b4 := hp.v
   have b5 := hp.d1
   have b6 := hp.d2
   have b7 := hp.c
   refine zlv xlss ?_
   refine zlv xmv ?_
   refine zlb 16 ?_ ?_ <;> intro hc
   ·
    iterate 5 refine zlo ?_
    refine zlv xpt ?_
    refine zlv xas ?_
    refine zln <| ztn <| zct <| zsq <| zrg ?_
    iterate 2 refine zlv xas ?_
    refine zln <| ztn <| zrt <| zbr <| ztr <| zf2 ⟨_, rfl, ?_⟩
    exact ⟨_, 0, fun _ => 0, 2, rfl, .inr (.inl ⟨hp, by omega, rfl, rfl⟩), slh_nil, (hS.addnil 1 3 (ints fun _ => 0)).sub (.cons _ (.cons_cons _ .slnil))⟩
   ·
    refine zlv xmv ?_
    refine zlv (xfb 2 fd_25_2) ?_
    refine zlv (xlb 0 pl_22 hS) ?_
    refine zlv (xln sl_22 hT.B.slh) ?_
    refine zlv xgeq ?_
    refine zlv xpf ?_
    refine zlv xas ?_
    refine zln <| ztn ?_
    refine zcif ?_ ?_ <;> intro hc
    ·
     refine zsq <| zrg ?_
     iterate 2 refine zlv xas ?_
     refine zln <| ztn <| zrt <| zbr <| ztr <| zf2 ⟨_, rfl, ?_⟩
     exact ⟨_, 0, fun _ => 0, 2, rfl, .inr (.inl ⟨hp, by omega, rfl, rfl⟩), slh_nil, (hS.addnil 1 3 (ints fun _ => 0)).sub (.cons _ (.cons_cons _ .slnil))⟩
    ·
     refine zsk <| zbn <| ztn <| zsq <| zrg ?_
     refine zlv (xfb 4 fd_25_4) ?_
     have hlr := hp.len (i := row + 1) (by omega) (by omega)
     refine zlv (xlb 0 pl_23 hS) ?_
     refine zlv xmv ?_
     refine zlv (xadd (r := row + 1)) ?_
     refine zlv (xix (kk := row + 1) sl_23 hT.C.row.slh) ?_
     refine zlv (xlr (u := (vv (row + 1))) pl_22 (hT.C.row.below hS.below)) ?_
     refine zlv xas ?_
     refine zln <| ztn <| zsq <| zsq ?_
     refine zdst [0] [0] 1000 mx_ hS ?_; clear hS; intro w hS
     refine zdv 0 (fun _ => xmv) ?_
     refine zdv 1 (fun _ => (xix (kk := 0) sl_22 (hT.C.p (row + 1) (by omega) (by omega)).slh)) ?_
     refine zdla 2 (fun w hS => (xlr (u := .int .i64 ((t.C (row + 1)) 0)) pl_3 ((hT.C.p (row + 1) (by omega) (by omega)).below hS.below))) ?_
     refine zdv 3 (fun _ => (xfb 1 fd_25_1)) ?_
     refine zdla 4 (fun w hS => (xlb 0 pl_3 hS)) ?_
     refine zdv 5 (fun _ => (xrem (r := (Int.tmod ((t.C (row + 1)) 0) t.den)))) ?_
     refine zdv 6 (fun _ => xeql) ?_
     refine zdd <| ztn ?_
     refine zcif ?_ ?_ <;> intro hc
     ·
      refine zsq <| zrg ?_
      iterate 2 refine zlv xas ?_
      refine zln <| ztn <| zrt <| ztr <| zf2 ⟨_, rfl, ?_⟩
      exact ⟨_, 0, fun _ => 0, 8, rfl, .inr (.inr (.inl ⟨hp, by omega, by omega, by omega, rfl, rfl⟩)), slh_nil, (hS.addnil 1 3 (ints fun _ => 0)).sub (.cons _ (.cons_cons _ .slnil))⟩
     ·
      refine zsk <| ztn <| zsq ?_
      refine zdst [0] [0] 1000 mx_ hS ?_; clear hS; intro w hS
      refine zdv 0 (fun _ => xmv) ?_
      refine zdv 1 (fun _ => (xix (kk := 0) sl_22 (hT.C.p (row + 1) (by omega) (by omega)).slh)) ?_
      refine zdla 2 (fun w hS => (xlr (u := .int .i64 ((t.C (row + 1)) 0)) pl_3 ((hT.C.p (row + 1) (by omega) (by omega)).below hS.below))) ?_
      refine zdv 3 (fun _ => (xfb 1 fd_25_1)) ?_
      refine zdla 4 (fun w hS => (xlb 0 pl_3 hS)) ?_
      have hq0 := rmd_rng (a := t.C (row + 1) 0) (d := t.den) (by omega)
      refine zdc 5 (xc0 cl_64) (c_mod (a := ((t.C (row + 1)) 0)) (d := t.den) w (by omega) (by omega)) ?_; rintro _ w ⟨rfl, hS'⟩
      replace hS := hS.cmp hS'; clear hS'
      refine ⟨⟨fun _ => hS, hS⟩, ?_⟩
      refine zdv 6 (fun _ => (xneg (r := -((rmd ((t.C (row + 1)) 0) t.den))))) ?_
      refine zda 7 (xli (n := 1) (len := 1) (pv := [(0, .int .i64 (-((rmd ((t.C (row + 1)) 0) t.den))))]) (cs := [.int .i64 (-((rmd ((t.C (row + 1)) 0) t.den)))]) (c := ints (fun _ => -((rmd ((t.C (row + 1)) 0) t.den)))) sl_22 el_3 hS) ?_; rintro v1 w ⟨hS, hv1⟩
      replace hS : Sat w0 w [.blk _ [_, _, _, _, _], _] := hS
      refine ⟨⟨fun _ => hS.pk [0], hS.pk [0]⟩, ?_⟩
      refine zdv 8 (fun _ => xas) ?_
      refine zdd <| ztn <| zsq <| zsq <| zrg ?_
      refine zlv xas ?_
      refine zln <| ztn <| zbk <| zlp (fun mm M w => ∃ (m : Int) (j : Int) (vb : Value) (g : Int → Int), mm = ((t.nf + 1 - j).toNat) ∧ (1 ≤ j) ∧ (j ≤ t.nf + 1) ∧ (m = j) ∧ (∀ j, 0 ≤ j → j < m → g j = cutF t row j) ∧ (Slh vb m) ∧ M = [(2, .pointer (some ⟨g1, 0, none⟩)), (4, .slice none 0 0), (5, .int .i64 0), (6, (vv (row + 1))), (7, vb), (8, .int .i64 j)] ∧ Sat w0 w [.blk g1 [.int .i64 t.vars, .int .i64 t.den, vB, vF, vC], .own vb 1 3 m (ints g)]) ⟨1, 1, v1, (fun _ => -((rmd ((t.C (row + 1)) 0) t.den))), rfl, (by omega), (by omega), (by omega), ?_, ?_, rfl, hS⟩ ?_
      ·
       intro j j0 j1; obtain rfl : j = 0 := by omega
       rfl
      ·
       exact hv1
      ·
       clear hS w
       rintro mm M w ⟨m, j, vb, g, rfl, h0, h1, hm, hg, hvb, rfl, hS⟩
       refine zsq <| zsq <| zrg ?_
       iterate 2 refine zlv xmv ?_
       refine zlv (xln sl_22 (hT.C.p (row + 1) (by omega) (by omega)).slh) ?_
       refine zlv xlss ?_
       refine zln <| ztn ?_
       refine zcif ?_ ?_ <;> intro hc
       ·
        refine zsk <| ztn <| zsq <| zbk ?_
        refine zdst [0] [0] 1000 mx_ hS ?_; clear hS; intro w hS
        refine zdv 0 (fun _ => xmv) ?_
        refine zdv 1 (fun _ => xmv) ?_
        refine zdv 2 (fun _ => xmv) ?_
        refine zdv 3 (fun _ => (xix (kk := j) sl_22 (hT.C.p (row + 1) (by omega) (by omega)).slh)) ?_
        refine zdla 4 (fun w hS => (xlr (u := .int .i64 ((t.C (row + 1)) j)) pl_3 ((hT.C.p (row + 1) (by omega) (by omega)).below hS.below))) ?_
        have hcx := hp.cell (i := row + 1) (j := j) (by omega) (by omega) (by omega) (by omega)
        refine zdv 5 (fun _ => (xneg (r := -(((t.C (row + 1)) j))))) ?_
        refine zdv 6 (fun _ => (xfb 1 fd_25_1)) ?_
        refine zdla 7 (fun w hS => (xlb 0 pl_3 hS)) ?_
        refine zdc 8 (xc0 cl_64) (c_mod (a := (-(((t.C (row + 1)) j)))) (d := t.den) w (by omega) (by omega)) ?_; rintro _ w ⟨rfl, hS'⟩
        replace hS := hS.cmp hS'; clear hS'
        refine ⟨⟨fun _ => hS.pk [0], hS.pk [0]⟩, ?_⟩
        refine zda 9 (xli (n := 1) (len := 1) (pv := [(0, .int .i64 (rmd (-(((t.C (row + 1)) j))) t.den))]) (cs := [.int .i64 (rmd (-(((t.C (row + 1)) j))) t.den)]) (c := ints (fun _ => (rmd (-(((t.C (row + 1)) j))) t.den))) sl_22 el_3 hS) ?_; rintro v2 w ⟨hS, hv2⟩
        replace hS : Sat w0 w [.blk _ [_, _, _, _, _], _, _] := hS
        refine ⟨⟨fun _ => hS.pk [0], hS.pk [0]⟩, ?_⟩
        refine zda 10 (xap 1 (r := m + 1) sl_22 el_3 hS (hS.rowN 2 rfl) (cat_snoc _ _ _)) ?_; rintro v3 w ⟨hS, hv3⟩
        replace hS : Sat w0 w [.blk _ [_, _, _, _, _], _, _] := hS
        refine ⟨⟨fun _ => hS.pk [0], hS.pk [0]⟩, ?_⟩
        refine zdv 11 (fun _ => xas) ?_
        refine zdd <| zbn <| ztn <| zrg ?_
        refine zlv xmv ?_
        refine zlv (xadd (r := j + 1)) ?_
        refine zlv xas ?_
        refine zln <| zlq ⟨m + 1, j + 1, v3, (snoc g m (rmd (-(((t.C (row + 1)) j))) t.den)), rfl, (by omega), (by omega), (by omega), ?_, ?_, rfl, hS.pk [0, 1]⟩
        ·
         intro q j0 j1; by_cases e : q < m
         · rw [snoc_lt e]; exact hg q j0 e
         · rw [snoc_at e]; unfold cutF; rw [if_neg (by omega), show q = j by omega]
        ·
         exact hv3
       ·
        refine zxt <| ztx <| ztx <| zbh <| ztn <| zsq <| zrg ?_
        refine zlv xmv ?_
        iterate 2 refine zlv xas ?_
        refine zln <| ztn <| zrt <| zf2 ⟨_, rfl, ?_⟩
        exact ⟨_, m, g, 0, rfl, .inr (.inr (.inr ⟨hp, by omega, by omega, by omega, by omega, hg, rfl⟩)), hvb, hS.pk [1]⟩

set_option maxRecDepth 20000 in
theorem c_add {vB vF vC : Value} {vv : Int → Value} {t : Tb} {row : Int} (w0 : World) (hT : TAt w0 vB vF vC vv t) (hrow0 : -9223372036854775808 ≤ row ∧ row ≤ 9223372036854775807) :
    Calls Try.prog 20 [.agg #[.int .i64 t.vars, .int .i64 t.den, vB, vF, vC], .int .i64 row].toArray w0 fun e w => ∃ v, e = .returned v ∧ ∃ vB vF vC vv t' e, v = .tuple #[.agg #[.int .i64 t'.vars, .int .i64 t'.den, vB, vF, vC], .int .i64 e] ∧ AddR t row t' e ∧ Slh vB t'.nb ∧ Slh vF t'.nf ∧ Slh vC t'.nc ∧ Sat w0 w [.own vB 1 3 t'.nb (ints t'.B), .own vF 1 3 t'.nf (ints t'.F), .own vC 1 22 t'.nc vv, .sem (Frame.rows 3 t'.nc vv t'.ln t'.C)] := by
  have hn := hT.F.slh.n0; have hn1 := hT.F.slh.n1; have hb := hT.B.slh.n0; have hb1 := hT.B.slh.n1; have hc0 := hT.C.row.slh.n0; have hc1 := hT.C.row.slh.n1
  refine zenG Try.func20 Try.ntmps20 fun w hS => ?_
  refine zsq <| zrg ?_
  refine zla (xbx (cs := [_, _, _, _, _]) hS) ?_; rintro _ w ⟨g1, rfl, hS⟩
  replace hS : Sat w0 w [.blk _ [_, _, _, _, _]] := hS
  refine zla (xal (cs := [_, _, _, _, _]) el_28 hS) ?_; rintro _ w ⟨g2, rfl, hS⟩
  replace hS : Sat w0 w [.blk _ [_, _, _, _, _], .blk _ [_, _, _, _, _]] := hS
  refine zlv xas ?_
  refine zln <| ztn <| zsq <| zrg ?_
  refine zlv (xls 0 st_28 hS) ?_
  refine zlv xmv ?_
  refine zlc (xc0 cl_18) (c_cut (t := t) (row := row) w (hT.below hS.below) (by omega)) ?_; rintro _ w ⟨vc1, nc1, fc1, ec1, rfl, hcuc1, hslc1, hS'⟩
  replace hS : Sat w0 w [.blk g1 [.int .i64 t.vars, .int .i64 t.den, vB, vF, vC], .blk g2 [.int .i64 0, .int .i64 0, .slice none 0 0, .slice none 0 0, .slice none 0 0], .own vc1 1 3 nc1 (ints fc1)] := hS.comp hS'; clear hS'
  refine zlv xmv ?_
  iterate 2 refine zlv xex ?_
  iterate 2 refine zlv xas ?_
  refine zln <| ztn <| zsq <| zbk <| zsq <| zrg ?_
  refine zlv xmv ?_
  refine zlv xneq ?_
  refine zlv xas ?_
  refine zln <| ztn ?_
  refine zcif ?_ ?_ <;> intro hc
  ·
   refine zsq <| zrg ?_
   refine zlv (xany (v := .agg #[.int .i64 0, .int .i64 0, .slice none 0 0, .slice none 0 0, .slice none 0 0])) ?_
   refine zlv xmv ?_
   refine zle (xsw 1 st_28 hS) ?_; clear hS; rintro w hS
   replace hS : Sat w0 w [.blk _ [_, _, _, _, _], .blk _ [_, _, _, _, _], _] := hS
   refine zlv xas ?_
   refine zln <| ztn <| zrt <| zbr <| ztr <| zfct 1 st_28 hS ⟨_, rfl, ?_⟩
   exact ⟨_, _, _, fun _ => undef, Tb.zero, _, rfl, hcuc1.bad (by omega), slh_nil, slh_nil, slh_nil, ((((hS.sub (.cons _ (.cons _ (.cons _ .slnil)))).addnil 1 3 (ints Tb.zero.B)).addnil 1 3 (ints Tb.zero.F)).addnil 1 22 (fun _ => undef)).addrows 3 (fun _ => undef) Tb.zero.ln Tb.zero.C⟩
  ·
   refine zsq <| zrg ?_
   refine zlv (xfb 2 fd_28_2) ?_
   obtain ⟨hp, hr0, hr1, hmd, hcn, hcf⟩ := hcuc1.full (by omega)
   have b1 := hp.n1
   have b2 := hp.n2
   have b3 := hp.m2
   have b4 := hp.v
   have b5 := hp.d1
   have b6 := hp.d2
   have b7 := hp.c
   refine zlv (xlb 0 pl_22 hS) ?_
   refine zlv (xln sl_22 hT.B.slh) ?_
   refine zlv xeql ?_
   refine zlv xas ?_
   refine zln <| ztn ?_
   refine zcif ?_ ?_ <;> intro hc
   ·
    refine zsq <| zrg ?_
    refine zlv (xany (v := .agg #[.int .i64 0, .int .i64 0, .slice none 0 0, .slice none 0 0, .slice none 0 0])) ?_
    refine zle (xsw 1 st_28 hS) ?_; clear hS; rintro w hS
    replace hS : Sat w0 w [.blk _ [_, _, _, _, _], .blk _ [_, _, _, _, _], _] := hS
    refine zlv xas ?_
    refine zln <| ztn <| zrt <| zbr <| ztr <| zfct 1 st_28 hS ⟨_, rfl, ?_⟩
    exact ⟨_, _, _, fun _ => undef, Tb.zero, 9, rfl, .inr (.inr (.inr (.inl ⟨hp, hr0, hr1, hmd, by omega, rfl, rfl⟩))), slh_nil, slh_nil, slh_nil, ((((hS.sub (.cons _ (.cons _ (.cons _ .slnil)))).addnil 1 3 (ints Tb.zero.B)).addnil 1 3 (ints Tb.zero.F)).addnil 1 22 (fun _ => undef)).addrows 3 (fun _ => undef) Tb.zero.ln Tb.zero.C⟩
   ·
    refine zsk <| zbn <| ztn <| zsq <| ?_
    refine zgcut (fun M w => ∃ (g3 : Nat) (vq1 : Value), (Slh vq1 t.nf) ∧ M = [(0, .agg #[.int .i64 t.vars, .int .i64 t.den, vB, vF, vC]), (1, .int .i64 row), (2, .pointer (some ⟨g1, 0, none⟩)), (4, .pointer (some ⟨g2, 0, none⟩)), (5, .int .i64 0), (12, .agg #[.int .i64 t.vars, .int .i64 t.den, vB, vF, vC]), (13, .int .i64 row), (14, .tuple #[vc1, .int .i64 ec1]), (11, .tuple #[vc1, .int .i64 ec1]), (15, vc1), (16, .int .i64 ec1), (6, vc1), (7, .int .i64 ec1), (18, .int .i64 ec1), (19, B (ec1 ≠ 0)), (17, B (ec1 ≠ 0)), (23, .pointer (some ⟨g1, 2, none⟩)), (24, vB), (25, .int .i64 t.nb), (26, B (t.nb = 16)), (22, B (t.nb = 16)), (28, .pointer (some ⟨g1, 0, none⟩)), (29, .int .i64 t.vars), (30, .pointer (some ⟨g1, 1, none⟩)), (31, .int .i64 t.den), (32, .pointer (some ⟨g1, 3, none⟩)), (33, vF), (34, vq1), (35, .agg #[.int .i64 t.vars, .int .i64 t.den, .slice none 0 0, vq1, .slice none 0 0]), (8, .pointer (some ⟨g3, 0, none⟩))] ∧ Sat w0 w [.blk g1 [.int .i64 t.vars, .int .i64 t.den, vB, vF, vC], .blk g2 [.int .i64 0, .int .i64 0, .slice none 0 0, .slice none 0 0, .slice none 0 0], .own vc1 1 3 nc1 (ints fc1), .own vq1 1 3 t.nf (ints t.F), .blk g3 [.int .i64 t.vars, .int .i64 t.den, .slice none 0 0, vq1, .slice none 0 0]]) ?_ ?_
    ·
     refine zdst [0, 1, 2] [0, 1, 2] 9 mx_ hS ?_; clear hS; intro w hS
     refine zdv 0 (fun _ => (xfb 0 fd_28_0)) ?_
     refine zdla 1 (fun w hS => (xlb 0 pl_3 hS)) ?_
     refine zdv 2 (fun _ => (xfb 1 fd_28_1)) ?_
     refine zdla 3 (fun w hS => (xlb 0 pl_3 hS)) ?_
     refine zdv 4 (fun _ => (xfb 3 fd_28_3)) ?_
     refine zdla 5 (fun w hS => (xlb 0 pl_22 hS)) ?_
     refine zdfk (r := [6, 8]) ((zdn1 ?_ (zdn1 ?_ zdn0)))
     ·
      refine zkc (xc0 cl_65) (c_clone (n := t.nf) (f := t.F) w (hT.F.below hS.below) (by omega)) ?_; rintro vq1 w ⟨_, rfl, hslq1, hS'⟩
      replace hS : Sat w0 w [.blk g1 [.int .i64 t.vars, .int .i64 t.den, vB, vF, vC], .blk g2 [.int .i64 0, .int .i64 0, .slice none 0 0, .slice none 0 0, .slice none 0 0], .own vc1 1 3 nc1 (ints fc1), .own vq1 1 3 t.nf (ints t.F)] := hS.comp hS'; clear hS'
      refine ⟨⟨fun _ => hS.pk [0, 1, 2], hS.pk [0, 1, 2]⟩, ?_⟩
      refine zdv 7 (fun _ => (xany (v := .agg #[.int .i64 t.vars, .int .i64 t.den, .slice none 0 0, vq1, .slice none 0 0]) (hr := by obtain ⟨_, _, _, _, rfl, _⟩ := hslq1; kernel_rfl))) ?_
      refine zda 8 (xal (cs := [_, _, _, _, _]) el_28 hS) ?_; rintro _ w ⟨g3, rfl, hS⟩
      replace hS : Sat w0 w [.blk _ [_, _, _, _, _], .blk _ [_, _, _, _, _], _, _, .blk _ [_, _, _, _, _]] := hS
      refine ⟨⟨fun _ => hS.pk [0, 1, 2], hS.pk [0, 1, 2]⟩, ?_⟩
      refine zde 9 (xsw 4 st_28 hS (hd := (ones_cons rfl (ones_cons rfl (ones_cons rfl (ones_cons hslq1.one (ones_cons rfl ones_nil))))))) ?_; clear hS; rintro w hS
      replace hS : Sat w0 w [.blk _ [_, _, _, _, _], .blk _ [_, _, _, _, _], _, _, .blk _ [_, _, _, _, _]] := hS
      refine ⟨⟨fun h => absurd h (by decide), hS.pk [0, 1, 2]⟩, ?_⟩
      refine zdd <| zgj ⟨g3, vq1, hslq1, rfl, hS⟩
     ·
      refine zka (xal (cs := [_, _, _, _, _]) el_28 hS) ?_; rintro _ w ⟨g3, rfl, hS⟩
      replace hS : Sat w0 w [.blk _ [_, _, _, _, _], .blk _ [_, _, _, _, _], _, .blk _ [_, _, _, _, _]] := hS
      refine ⟨⟨fun _ => hS.pk [0, 1, 2], hS.pk [0, 1, 2]⟩, ?_⟩
      refine zdc 6 (xc0 cl_65) (c_clone (n := t.nf) (f := t.F) w (hT.F.below hS.below) (by omega)) ?_; rintro vq1 w ⟨_, rfl, hslq1, hS'⟩
      replace hS : Sat w0 w [.blk g1 [.int .i64 t.vars, .int .i64 t.den, vB, vF, vC], .blk g2 [.int .i64 0, .int .i64 0, .slice none 0 0, .slice none 0 0, .slice none 0 0], .own vc1 1 3 nc1 (ints fc1), .blk g3 [.int .i64 0, .int .i64 0, .slice none 0 0, .slice none 0 0, .slice none 0 0], .own vq1 1 3 t.nf (ints t.F)] := hS.comp hS'; clear hS'
      refine ⟨⟨fun _ => hS.pk [0, 1, 2], hS.pk [0, 1, 2]⟩, ?_⟩
      refine zdv 7 (fun _ => (xany (v := .agg #[.int .i64 t.vars, .int .i64 t.den, .slice none 0 0, vq1, .slice none 0 0]) (hr := by obtain ⟨_, _, _, _, rfl, _⟩ := hslq1; kernel_rfl))) ?_
      refine zde 9 (xsw 3 st_28 hS (hd := (ones_cons rfl (ones_cons rfl (ones_cons rfl (ones_cons hslq1.one (ones_cons rfl ones_nil))))))) ?_; clear hS; rintro w hS
      replace hS : Sat w0 w [.blk _ [_, _, _, _, _], .blk _ [_, _, _, _, _], _, .blk _ [_, _, _, _, _], _] := hS
      refine ⟨⟨fun h => absurd h (by decide), hS.pk [0, 1, 2]⟩, ?_⟩
      refine zdd <| zgj ⟨g3, vq1, hslq1, rfl, hS.pk [0, 1, 2, 4, 3]⟩
    ·
     clear hS w; rintro M w ⟨g3, vq1, hslq1, rfl, hS⟩
     refine ztn <| zsq <| ?_
     refine zgcut (fun M w => ∃ (vq2 : Value) (v1 : Value) (v2 : Value), (Slh vq2 t.nb) ∧ (Slh v1 1) ∧ (Slh v2 (t.nb + 1)) ∧ M = [(0, .agg #[.int .i64 t.vars, .int .i64 t.den, vB, vF, vC]), (1, .int .i64 row), (2, .pointer (some ⟨g1, 0, none⟩)), (4, .pointer (some ⟨g2, 0, none⟩)), (5, .int .i64 0), (12, .agg #[.int .i64 t.vars, .int .i64 t.den, vB, vF, vC]), (13, .int .i64 row), (14, .tuple #[vc1, .int .i64 ec1]), (11, .tuple #[vc1, .int .i64 ec1]), (15, vc1), (16, .int .i64 ec1), (6, vc1), (7, .int .i64 ec1), (18, .int .i64 ec1), (19, B (ec1 ≠ 0)), (17, B (ec1 ≠ 0)), (23, .pointer (some ⟨g1, 2, none⟩)), (24, vB), (25, .int .i64 t.nb), (26, B (t.nb = 16)), (22, B (t.nb = 16)), (28, .pointer (some ⟨g1, 0, none⟩)), (29, .int .i64 t.vars), (30, .pointer (some ⟨g1, 1, none⟩)), (31, .int .i64 t.den), (32, .pointer (some ⟨g1, 3, none⟩)), (33, vF), (34, vq1), (35, .agg #[.int .i64 t.vars, .int .i64 t.den, .slice none 0 0, vq1, .slice none 0 0]), (8, .pointer (some ⟨g3, 0, none⟩)), (36, .pointer (some ⟨g1, 2, none⟩)), (37, vB), (39, .pointer (some ⟨g1, 2, none⟩)), (40, vB), (41, .int .i64 t.nb), (42, .pointer (some ⟨g1, 3, none⟩)), (43, vF), (44, .int .i64 t.nf), (45, .int .i64 (t.nb + t.nf)), (38, vq2), (46, v1), (47, v2), (48, .pointer (some ⟨g3, 2, none⟩))] ∧ Sat w0 w [.blk g1 [.int .i64 t.vars, .int .i64 t.den, vB, vF, vC], .blk g2 [.int .i64 0, .int .i64 0, .slice none 0 0, .slice none 0 0, .slice none 0 0], .own vc1 1 3 nc1 (ints fc1), .own vq1 1 3 t.nf (ints t.F), .blk g3 [.int .i64 t.vars, .int .i64 t.den, v2, vq1, .slice none 0 0], .own v2 1 3 (t.nb + 1) (ints (snoc t.B t.nb (t.nb + t.nf))), .own v1 1 3 1 (ints (fun _ => t.nb + t.nf))]) ?_ ?_
     ·
      refine zdst [0, 1, 4] [0, 1] 13 mx_ hS ?_; clear hS; intro w hS
      refine zdv 0 (fun _ => (xfb 2 fd_28_2)) ?_
      refine zdla 1 (fun w hS => (xlb 0 pl_22 hS)) ?_
      refine zdv 3 (fun _ => (xfb 2 fd_28_2)) ?_
      refine zdla 4 (fun w hS => (xlb 0 pl_22 hS)) ?_
      refine zdv 5 (fun _ => (xln sl_22 hT.B.slh)) ?_
      refine zdv 6 (fun _ => (xfb 3 fd_28_3)) ?_
      refine zdla 7 (fun w hS => (xlb 0 pl_22 hS)) ?_
      refine zdv 8 (fun _ => (xln sl_22 hT.F.slh)) ?_
      refine zdv 9 (fun _ => (xadd (r := t.nb + t.nf))) ?_
      refine zdfk (r := [2, 10]) ((zdn1 ?_ (zdn1 ?_ zdn0)))
      ·
       refine zkc (xc0 cl_65) (c_clone (n := t.nb) (f := t.B) w (hT.B.below hS.below) (by omega)) ?_; rintro vq2 w ⟨_, rfl, hslq2, hS'⟩
       replace hS : Sat w0 w [.blk g1 [.int .i64 t.vars, .int .i64 t.den, vB, vF, vC], .blk g2 [.int .i64 0, .int .i64 0, .slice none 0 0, .slice none 0 0, .slice none 0 0], .own vc1 1 3 nc1 (ints fc1), .own vq1 1 3 t.nf (ints t.F), .blk g3 [.int .i64 t.vars, .int .i64 t.den, .slice none 0 0, vq1, .slice none 0 0], .own vq2 1 3 t.nb (ints t.B)] := hS.comp hS'; clear hS'
       refine ⟨⟨fun _ => hS.pk [0, 1, 4], hS.pk [0, 1]⟩, ?_⟩
       refine zda 10 (xli (n := 1) (len := 1) (pv := [(0, .int .i64 (t.nb + t.nf))]) (cs := [.int .i64 (t.nb + t.nf)]) (c := ints (fun _ => t.nb + t.nf)) sl_22 el_3 hS) ?_; rintro v1 w ⟨hS, hv1⟩
       replace hS : Sat w0 w [.blk _ [_, _, _, _, _], .blk _ [_, _, _, _, _], _, _, .blk _ [_, _, _, _, _], _, _] := hS
       refine ⟨⟨fun _ => hS.pk [0, 1, 4], hS.pk [0, 1]⟩, ?_⟩
       refine zda 11 (xap 5 (r := t.nb + 1) sl_22 el_3 hS (hS.rowN 6 rfl) (cat_snoc _ _ _)) ?_; rintro v2 w ⟨hS, hv2⟩
       replace hS : Sat w0 w [.blk _ [_, _, _, _, _], .blk _ [_, _, _, _, _], _, _, .blk _ [_, _, _, _, _], _, _] := hS
       refine ⟨⟨fun _ => hS.pk [0, 1, 4], hS.pk [0, 1]⟩, ?_⟩
       refine zdv 12 (fun _ => (xfb 2 fd_28_2)) ?_
       refine zde 13 (xsb 4 pl_22 hS (hv := hv2.one)) ?_; clear hS; rintro w hS
       replace hS : Sat w0 w [.blk _ [_, _, _, _, _], .blk _ [_, _, _, _, _], _, _, .blk _ [_, _, _, _, _], _, _] := hS
       refine ⟨⟨fun h => absurd h (by decide), hS.pk [0, 1]⟩, ?_⟩
       refine zdd <| zgj ⟨vq2, v1, v2, hslq2, hv1, hv2, rfl, hS⟩
      ·
       refine zka (xli (n := 1) (len := 1) (pv := [(0, .int .i64 (t.nb + t.nf))]) (cs := [.int .i64 (t.nb + t.nf)]) (c := ints (fun _ => t.nb + t.nf)) sl_22 el_3 hS) ?_; rintro v1 w ⟨hS, hv1⟩
       replace hS : Sat w0 w [.blk _ [_, _, _, _, _], .blk _ [_, _, _, _, _], _, _, .blk _ [_, _, _, _, _], _] := hS
       refine ⟨⟨fun _ => hS.pk [0, 1, 4], hS.pk [0, 1]⟩, ?_⟩
       refine zdc 2 (xc0 cl_65) (c_clone (n := t.nb) (f := t.B) w (hT.B.below hS.below) (by omega)) ?_; rintro vq2 w ⟨_, rfl, hslq2, hS'⟩
       replace hS : Sat w0 w [.blk g1 [.int .i64 t.vars, .int .i64 t.den, vB, vF, vC], .blk g2 [.int .i64 0, .int .i64 0, .slice none 0 0, .slice none 0 0, .slice none 0 0], .own vc1 1 3 nc1 (ints fc1), .own vq1 1 3 t.nf (ints t.F), .blk g3 [.int .i64 t.vars, .int .i64 t.den, .slice none 0 0, vq1, .slice none 0 0], .own v1 1 3 1 (ints (fun _ => t.nb + t.nf)), .own vq2 1 3 t.nb (ints t.B)] := hS.comp hS'; clear hS'
       refine ⟨⟨fun _ => hS.pk [0, 1, 4], hS.pk [0, 1]⟩, ?_⟩
       refine zda 11 (xap 6 (r := t.nb + 1) sl_22 el_3 hS (hS.rowN 5 rfl) (cat_snoc _ _ _)) ?_; rintro v2 w ⟨hS, hv2⟩
       replace hS : Sat w0 w [.blk _ [_, _, _, _, _], .blk _ [_, _, _, _, _], _, _, .blk _ [_, _, _, _, _], _, _] := hS
       refine ⟨⟨fun _ => hS.pk [0, 1, 4], hS.pk [0, 1]⟩, ?_⟩
       refine zdv 12 (fun _ => (xfb 2 fd_28_2)) ?_
       refine zde 13 (xsb 4 pl_22 hS (hv := hv2.one)) ?_; clear hS; rintro w hS
       replace hS : Sat w0 w [.blk _ [_, _, _, _, _], .blk _ [_, _, _, _, _], _, _, .blk _ [_, _, _, _, _], _, _] := hS
       refine ⟨⟨fun h => absurd h (by decide), hS.pk [0, 1]⟩, ?_⟩
       refine zdd <| zgj ⟨vq2, v1, v2, hslq2, hv1, hv2, rfl, hS.pk [0, 1, 2, 3, 4, 6, 5]⟩
     ·
      clear hS w; rintro M w ⟨vq2, v1, v2, hslq2, hv1, hv2, rfl, hS⟩
      refine ztn <| zsq <| zsq <| zrg ?_
      refine zlv (xfb 4 fd_28_4) ?_
      refine zlv (xlb 0 pl_23 hS) ?_
      refine zlv (xln sl_23 hT.C.row.slh) ?_
      refine zlv xmv ?_
      refine zln <| ztn <| zbk ?_
      replace hS := hS.addnil 1 22 (fun _ => Value.slice none 0 0)
      replace hS : Sat w0 w [.blk _ [_, _, _, _, _], .blk _ [_, _, _, _, _], _, _, .blk _ [_, _, _, _, _], _, _, _] := hS
      replace hS := hS.addrows 3 (fun _ => Value.slice none 0 0) t.ln t.C
      replace hS : Sat w0 w [.blk _ [_, _, _, _, _], .blk _ [_, _, _, _, _], _, _, .blk _ [_, _, _, _, _], _, _, _, _] := hS
      replace hS : Sat w0 w [.blk _ [_, _, _, _, _], .blk _ [_, _, _, _, _], _, _, .blk _ [_, _, _, _, _], _, _, _, _] := hS
      have hrs0 := fun k (k0 : 0 ≤ k) (k1 : k < 0) => hS.slhIn 8 rfl k0 k1
      refine zlp (fun mm M w => ∃ (nC : Int) (wv : Int → Value) (i : Int) (wC : Value), mm = ((t.nc - i).toNat) ∧ (0 ≤ i) ∧ (i ≤ t.nc) ∧ (nC = i) ∧ (Slh wC nC) ∧ M = [(4, .pointer (some ⟨g2, 0, none⟩)), (5, .int .i64 0), (6, vc1), (8, .pointer (some ⟨g3, 0, none⟩)), (50, vC), (51, .int .i64 t.nc), (52, .int .i64 i)] ∧ Sat w0 w [.blk g1 [.int .i64 t.vars, .int .i64 t.den, vB, vF, vC], .blk g2 [.int .i64 0, .int .i64 0, .slice none 0 0, .slice none 0 0, .slice none 0 0], .own vc1 1 3 nc1 (ints fc1), .own vq1 1 3 t.nf (ints t.F), .blk g3 [.int .i64 t.vars, .int .i64 t.den, v2, vq1, wC], .own v2 1 3 (t.nb + 1) (ints (snoc t.B t.nb (t.nb + t.nf))), .own v1 1 3 1 (ints (fun _ => t.nb + t.nf)), .own wC 1 22 nC wv, .sem (Frame.rows 3 nC wv t.ln t.C)]) ⟨0, (fun _ => Value.slice none 0 0), 0, (.slice none 0 0), rfl, (by omega), (by omega), (by omega), ?_, rfl, hS⟩ ?_
      ·
       exact slh_nil
      ·
       clear hS w
       rintro mm M w ⟨nC, wv, i, wC, rfl, h0, h1, hnC, hwC, rfl, hS⟩
       have hrs1 := fun k (k0 : 0 ≤ k) (k1 : k < nC) => hS.slhIn 8 rfl k0 k1
       refine zsq <| zrg ?_
       refine zlv xlss ?_
       refine zln <| ztn <| zsq ?_
       refine zcif ?_ ?_ <;> intro hc
       ·
        refine zsk <| ztn <| zsq <| zbk <| zsq <| zrg ?_
        refine zlv (xix (kk := i) sl_23 hT.C.row.slh) ?_
        refine zlv (xlr (u := (vv i)) pl_22 (hT.C.row.below hS.below)) ?_
        have hli := hp.len (i := i) (by omega) (by omega)
        refine zlv xas ?_
        refine zln <| ztn ?_
        refine zdst [0, 1, 4] [0, 1] 7 mx_ hS ?_; clear hS; intro w hS
        refine zdv 0 (fun _ => (xfb 4 fd_28_4)) ?_
        refine zdl 1 (fun w hS => (xlb 2 pl_23 hS)) ?_
        refine zdv 2 (fun _ => xmv) ?_
        refine zdc 3 (xc0 cl_65) (c_clone (n := (t.ln i)) (f := (t.C i)) w ((hT.C.p i (by omega) (by omega)).below hS.below) (by omega)) ?_; rintro vq3 w ⟨_, rfl, hslq3, hS'⟩
        replace hS : Sat w0 w [.blk g1 [.int .i64 t.vars, .int .i64 t.den, vB, vF, vC], .blk g2 [.int .i64 0, .int .i64 0, .slice none 0 0, .slice none 0 0, .slice none 0 0], .own vc1 1 3 nc1 (ints fc1), .own vq1 1 3 t.nf (ints t.F), .blk g3 [.int .i64 t.vars, .int .i64 t.den, v2, vq1, wC], .own v2 1 3 (t.nb + 1) (ints (snoc t.B t.nb (t.nb + t.nf))), .own v1 1 3 1 (ints (fun _ => t.nb + t.nf)), .own wC 1 22 nC wv, .sem (Frame.rows 3 nC wv t.ln t.C), .own vq3 1 3 (t.ln i) (ints (t.C i))] := hS.comp hS'; clear hS'
        refine ⟨⟨fun _ => hS.pk [0, 1, 4], hS.pk [0, 1]⟩, ?_⟩
        refine zda 4 (xli (n := 1) (len := 1) (pv := [(0, vq3)]) (cs := [vq3]) (c := (fun _ => vq3)) sl_23 el_22 hS (hf := by obtain ⟨_, _, _, _, rfl, _⟩ := hslq3; kernel_rfl)) ?_; rintro v3 w ⟨hS, hv3⟩
        replace hS : Sat w0 w [.blk _ [_, _, _, _, _], .blk _ [_, _, _, _, _], _, _, .blk _ [_, _, _, _, _], _, _, _, _, _, _] := hS
        refine ⟨⟨fun _ => hS.pk [0, 1, 4], hS.pk [0, 1]⟩, ?_⟩
        refine zda 5 (xap 7 (r := nC + 1) sl_23 el_22 hS (hS.rowN 10 rfl) (cat_gsn _ _ _) (h1 := fun _ _ _ => hslq3.one)) ?_; rintro v4 w ⟨hS, hv4⟩
        replace hS : Sat w0 w [.blk _ [_, _, _, _, _], .blk _ [_, _, _, _, _], _, _, .blk _ [_, _, _, _, _], _, _, _, _, _, _] := hS
        replace hS := Sat.merge (l1 := [_, _, _, _, _, _, _, _]) (l2 := []) (l3 := [_]) hS (by omega)
        have hrs2 := fun k (k0 : 0 ≤ k) (k1 : k < nC + 1) => hS.slhIn 8 rfl k0 k1
        replace hS : Sat w0 w [.blk _ [_, _, _, _, _], .blk _ [_, _, _, _, _], _, _, .blk _ [_, _, _, _, _], _, _, _, _, _] := hS
        refine ⟨⟨fun _ => hS.pk [0, 1, 4], hS.pk [0, 1]⟩, ?_⟩
        refine zdv 6 (fun _ => (xfb 4 fd_28_4)) ?_
        refine zde 7 (xsb 4 pl_23 hS (hv := hv4.one)) ?_; clear hS; rintro w hS
        replace hS : Sat w0 w [.blk _ [_, _, _, _, _], .blk _ [_, _, _, _, _], _, _, .blk _ [_, _, _, _, _], _, _, _, _, _] := hS
        refine ⟨⟨fun h => absurd h (by decide), hS.pk [0, 1]⟩, ?_⟩
        refine zdd <| zbn <| ztn <| zrg ?_
        refine zlv (xadd (r := i + 1)) ?_
        replace hS := hS.rerows (vv' := gsn wv nC vq3) (ln' := t.ln) (f' := t.C) 8 rfl (fun k k0 k1 => by
          by_cases e : k < i
          · exact ⟨rfl, gsn_lt (by omega), fun j _ _ => by rw [gsn_lt (by omega)]⟩
          · have hki : k = i := by omega
            refine ⟨rfl, ?_, fun b b0 b1 => ?_⟩
            · rw [gsn_at (by omega), hki]
            · rw [gsn_at (by omega), hki]
          )
        replace hS : Sat w0 w [.blk _ [_, _, _, _, _], .blk _ [_, _, _, _, _], _, _, .blk _ [_, _, _, _, _], _, _, _, _, _] := hS
        have hrr1 := fun k (k0 : 0 ≤ k) (k1 : k < nC + 1) => hS.slhIn 8 rfl k0 k1
        refine zlv xmv ?_
        refine zln <| zlq ⟨nC + 1, gsn wv nC vq3, i + 1, v4, rfl, (by omega), (by omega), (by omega), ?_, rfl, hS.pk [0, 1, 2, 3, 4, 5, 6, 7, 8]⟩
        ·
         exact hv4
       ·
        refine zxt <| ztx <| ztx <| zbh <| ztn <| zsq <| zrg ?_
        refine zlv (xfb 4 fd_28_4) ?_
        have hnn : nC = t.nc := by omega
        refine zlv (xlb 4 pl_23 hS) ?_
        refine zlv xmv ?_
        refine zla (xli (n := 1) (len := 1) (pv := [(0, vc1)]) (cs := [vc1]) (c := (fun _ => vc1)) sl_23 el_22 hS (hf := by obtain ⟨_, _, _, _, rfl, _⟩ := hslc1; kernel_rfl)) ?_; rintro v5 w ⟨hS, hv5⟩
        replace hS : Sat w0 w [.blk _ [_, _, _, _, _], .blk _ [_, _, _, _, _], _, _, .blk _ [_, _, _, _, _], _, _, _, _, _] := hS
        refine zla (xap 7 (r := nC + 1) sl_23 el_22 hS (hS.rowN 9 rfl) (cat_gsn _ _ _) (h1 := fun _ _ _ => hslc1.one)) ?_; rintro v6 w ⟨hS, hv6⟩
        replace hS : Sat w0 w [.blk _ [_, _, _, _, _], .blk _ [_, _, _, _, _], _, _, .blk _ [_, _, _, _, _], _, _, _, _, _] := hS
        replace hS := Sat.merge2 (l1 := [_, _]) (l2 := [_, _, _, _, _]) (l3 := [_]) hS (by omega)
        have hrs3 := fun k (k0 : 0 ≤ k) (k1 : k < nC + 1) => hS.slhIn 7 rfl k0 k1
        replace hS : Sat w0 w [.blk _ [_, _, _, _, _], .blk _ [_, _, _, _, _], _, .blk _ [_, _, _, _, _], _, _, _, _, _] := hS
        refine zlv (xfb 4 fd_28_4) ?_
        refine zle (xsb 3 pl_23 hS (hv := hv6.one)) ?_; clear hS; rintro w hS
        replace hS : Sat w0 w [.blk _ [_, _, _, _, _], .blk _ [_, _, _, _, _], _, .blk _ [_, _, _, _, _], _, _, _, _, _] := hS
        refine zln <| ztn <| zsq <| zrg ?_
        refine zlv (xls 3 st_28 hS) ?_
        replace hS := hS.rerows (vv' := gsn wv nC vc1) (ln' := (addT t row).ln) (f' := (addT t row).C) 7 rfl (fun k k0 k1 => by
          dsimp only [addT]
          by_cases e : k < t.nc
          · refine ⟨rfl, ?_, fun j _ _ => ?_⟩
            · rw [gsn_lt (by omega), gsn_lt e]
            · rw [gsn_lt (by omega), gsn_lt e]
          · refine ⟨rfl, ?_, fun b b0 b1 => ?_⟩
            · rw [gsn_at (by omega), gsn_at e]; exact hcn
            · rw [gsn_at (by omega), gsn_at e]; exact hcf b b0 (by rw [gsn_at (by omega)] at b1; exact b1)
          )
        replace hS : Sat w0 w [.blk _ [_, _, _, _, _], .blk _ [_, _, _, _, _], _, .blk _ [_, _, _, _, _], _, _, _, _, _] := hS
        have hrr2 := fun k (k0 : 0 ≤ k) (k1 : k < nC + 1) => hS.slhIn 7 rfl k0 k1
        refine zle (xsw 1 st_28 hS (hd := (ones_cons rfl (ones_cons rfl (ones_cons hv2.one (ones_cons hslq1.one (ones_cons hv6.one ones_nil))))))) ?_; clear hS; rintro w hS
        replace hS : Sat w0 w [.blk _ [_, _, _, _, _], .blk _ [_, _, _, _, _], _, .blk _ [_, _, _, _, _], _, _, _, _, _] := hS
        refine zlv xas ?_
        refine zln <| ztn <| zrt <| zfct 1 st_28 hS ⟨_, rfl, ?_⟩
        rw [hnn] at hS hv6
        exact ⟨_, _, _, _, addT t row, 0, rfl, .inr (.inr (.inr (.inr ⟨hp, hr0, hr1, hmd, by omega, rfl, rfl⟩))), hv2, hslq1, hv6, hS.pk [4, 2, 6, 7]⟩

set_option maxRecDepth 20000 in
theorem c_radd {vB vF vC : Value} {vv : Int → Value} {t : Tb} {row : Int} (w0 : World) (hT : TAt w0 vB vF vC vv t) (hrow0 : -9223372036854775808 ≤ row ∧ row ≤ 9223372036854775807) :
    Calls Try.prog 21 [.agg #[.int .i64 t.vars, .int .i64 t.den, vB, vF, vC], .int .i64 row].toArray w0 fun e w => ∃ v, e = .returned v ∧ ∃ vB vF vC vv t' e, v = .tuple #[.agg #[.int .i64 t'.vars, .int .i64 t'.den, vB, vF, vC], .int .i64 e] ∧ AddR t row t' e ∧ Slh vB t'.nb ∧ Slh vF t'.nf ∧ Slh vC t'.nc ∧ Sat w0 w [.own vB 1 3 t'.nb (ints t'.B), .own vF 1 3 t'.nf (ints t'.F), .own vC 1 22 t'.nc vv, .sem (Frame.rows 3 t'.nc vv t'.ln t'.C)] := by
  have hn := hT.F.slh.n0; have hn1 := hT.F.slh.n1; have hb := hT.B.slh.n0; have hb1 := hT.B.slh.n1; have hc0 := hT.C.row.slh.n0; have hc1 := hT.C.row.slh.n1
  refine zenG Try.func21 Try.ntmps21 fun w hS => ?_
  refine zsq <| zrg ?_
  refine zla (xbx (cs := [_, _, _, _, _]) hS) ?_; rintro _ w ⟨g1, rfl, hS⟩
  replace hS : Sat w0 w [.blk _ [_, _, _, _, _]] := hS
  refine zla (xal (cs := [_, _, _, _, _]) el_25 hS) ?_; rintro _ w ⟨g2, rfl, hS⟩
  replace hS : Sat w0 w [.blk _ [_, _, _, _, _], .blk _ [_, _, _, _, _]] := hS
  refine zlv xas ?_
  refine zln <| ztn <| zsq <| zrg ?_
  refine zlv (xls 0 st_25 hS) ?_
  refine zlv xmv ?_
  refine zlc (xc0 cl_19) (c_rcut (t := t) (row := row) w (hT.below hS.below) (by omega)) ?_; rintro _ w ⟨vc1, nc1, fc1, ec1, rfl, hcuc1, hslc1, hS'⟩
  replace hS : Sat w0 w [.blk g1 [.int .i64 t.vars, .int .i64 t.den, vB, vF, vC], .blk g2 [.int .i64 0, .int .i64 0, .slice none 0 0, .slice none 0 0, .slice none 0 0], .own vc1 1 3 nc1 (ints fc1)] := hS.comp hS'; clear hS'
  refine zlv xmv ?_
  iterate 2 refine zlv xex ?_
  iterate 2 refine zlv xas ?_
  refine zln <| ztn <| zsq <| zbk <| zsq <| zrg ?_
  refine zlv xmv ?_
  refine zlv xneq ?_
  refine zlv xas ?_
  refine zln <| ztn ?_
  refine zcif ?_ ?_ <;> intro hc
  ·
   refine zsq <| zrg ?_
   refine zlv (xany (v := .agg #[.int .i64 0, .int .i64 0, .slice none 0 0, .slice none 0 0, .slice none 0 0])) ?_
   refine zlv xmv ?_
   refine zle (xsw 1 st_25 hS) ?_; clear hS; rintro w hS
   replace hS : Sat w0 w [.blk _ [_, _, _, _, _], .blk _ [_, _, _, _, _], _] := hS
   refine zlv xas ?_
   refine zln <| ztn <| zrt <| zbr <| ztr <| zfct 1 st_25 hS ⟨_, rfl, ?_⟩
   exact ⟨_, _, _, fun _ => undef, Tb.zero, _, rfl, hcuc1.bad (by omega), slh_nil, slh_nil, slh_nil, ((((hS.sub (.cons _ (.cons _ (.cons _ .slnil)))).addnil 1 3 (ints Tb.zero.B)).addnil 1 3 (ints Tb.zero.F)).addnil 1 22 (fun _ => undef)).addrows 3 (fun _ => undef) Tb.zero.ln Tb.zero.C⟩
  ·
   refine zsq <| zrg ?_
   refine zlv (xfb 2 fd_25_2) ?_
   obtain ⟨hp, hr0, hr1, hmd, hcn, hcf⟩ := hcuc1.full (by omega)
   have b1 := hp.n1
   have b2 := hp.n2
   have b3 := hp.m2
   have b4 := hp.v
   have b5 := hp.d1
   have b6 := hp.d2
   have b7 := hp.c
   refine zlv (xlb 0 pl_22 hS) ?_
   refine zlv (xln sl_22 hT.B.slh) ?_
   refine zlv xgeq ?_
   refine zlv xas ?_
   refine zln <| ztn ?_
   refine zcif ?_ ?_ <;> intro hc
   ·
    refine zsq <| zrg ?_
    refine zlv (xany (v := .agg #[.int .i64 0, .int .i64 0, .slice none 0 0, .slice none 0 0, .slice none 0 0])) ?_
    refine zle (xsw 1 st_25 hS) ?_; clear hS; rintro w hS
    replace hS : Sat w0 w [.blk _ [_, _, _, _, _], .blk _ [_, _, _, _, _], _] := hS
    refine zlv xas ?_
    refine zln <| ztn <| zrt <| zbr <| ztr <| zfct 1 st_25 hS ⟨_, rfl, ?_⟩
    exact ⟨_, _, _, fun _ => undef, Tb.zero, 9, rfl, .inr (.inr (.inr (.inl ⟨hp, hr0, hr1, hmd, by omega, rfl, rfl⟩))), slh_nil, slh_nil, slh_nil, ((((hS.sub (.cons _ (.cons _ (.cons _ .slnil)))).addnil 1 3 (ints Tb.zero.B)).addnil 1 3 (ints Tb.zero.F)).addnil 1 22 (fun _ => undef)).addrows 3 (fun _ => undef) Tb.zero.ln Tb.zero.C⟩
   ·
    refine zsk <| zbn <| ztn <| zsq <| zrg ?_
    refine zlv (xls 0 st_25 hS) ?_
    refine zlc (xc0 cl_66) (c_copy (t := t) w (hT.below hS.below) hp) ?_; rintro _ w ⟨yBc2, yFc2, yCc2, yvc2, rfl, hyBc2, hyFc2, hyCc2, hS'⟩
    replace hS : Sat w0 w [.blk g1 [.int .i64 t.vars, .int .i64 t.den, vB, vF, vC], .blk g2 [.int .i64 0, .int .i64 0, .slice none 0 0, .slice none 0 0, .slice none 0 0], .own vc1 1 3 nc1 (ints fc1), .own yBc2 1 3 t.nb (ints t.B), .own yFc2 1 3 t.nf (ints t.F), .own yCc2 1 22 t.nc yvc2, .sem (Frame.rows 3 t.nc yvc2 t.ln t.C)] := hS.comp hS'; clear hS'
    have hyrc2 := fun k (k0 : 0 ≤ k) (k1 : k < t.nc) => hS.slhIn 6 rfl k0 k1
    refine zla (xal (cs := [_, _, _, _, _]) el_25 hS) ?_; rintro _ w ⟨g3, rfl, hS⟩
    replace hS : Sat w0 w [.blk _ [_, _, _, _, _], .blk _ [_, _, _, _, _], _, _, _, _, _, .blk _ [_, _, _, _, _]] := hS
    refine zle (xsw 7 st_25 hS (hd := (ones_cons rfl (ones_cons rfl (ones_cons hyBc2.one (ones_cons hyFc2.one (ones_cons hyCc2.one ones_nil))))))) ?_; clear hS; rintro w hS
    replace hS : Sat w0 w [.blk _ [_, _, _, _, _], .blk _ [_, _, _, _, _], _, _, _, _, _, .blk _ [_, _, _, _, _]] := hS
    refine zln <| ztn <| zsq <| zrg ?_
    refine zlv (xfb 2 fd_25_2) ?_
    refine zlv (xlb 7 pl_22 hS) ?_
    refine zlv (xfb 2 fd_25_2) ?_
    refine zlv (xlb 0 pl_22 hS) ?_
    refine zlv (xln sl_22 hT.B.slh) ?_
    refine zlv (xfb 3 fd_25_3) ?_
    refine zlv (xlb 0 pl_22 hS) ?_
    refine zlv (xln sl_22 hT.F.slh) ?_
    refine zlv (xadd (r := t.nb + t.nf)) ?_
    refine zla (xli (n := 1) (len := 1) (pv := [(0, .int .i64 (t.nb + t.nf))]) (cs := [.int .i64 (t.nb + t.nf)]) (c := ints (fun _ => t.nb + t.nf)) sl_22 el_3 hS) ?_; rintro v1 w ⟨hS, hv1⟩
    replace hS : Sat w0 w [.blk _ [_, _, _, _, _], .blk _ [_, _, _, _, _], _, _, _, _, _, .blk _ [_, _, _, _, _], _] := hS
    refine zla (xap 3 (r := t.nb + 1) sl_22 el_3 hS (hS.rowN 8 rfl) (cat_snoc _ _ _)) ?_; rintro v2 w ⟨hS, hv2⟩
    replace hS : Sat w0 w [.blk _ [_, _, _, _, _], .blk _ [_, _, _, _, _], _, _, _, _, _, .blk _ [_, _, _, _, _], _] := hS
    refine zlv (xfb 2 fd_25_2) ?_
    refine zle (xsb 7 pl_22 hS (hv := hv2.one)) ?_; clear hS; rintro w hS
    replace hS : Sat w0 w [.blk _ [_, _, _, _, _], .blk _ [_, _, _, _, _], _, _, _, _, _, .blk _ [_, _, _, _, _], _] := hS
    refine zln <| ztn <| zsq <| zrg ?_
    refine zlv (xfb 4 fd_25_4) ?_
    refine zlv (xlb 7 pl_23 hS) ?_
    refine zlv xmv ?_
    refine zla (xli (n := 1) (len := 1) (pv := [(0, vc1)]) (cs := [vc1]) (c := (fun _ => vc1)) sl_23 el_22 hS (hf := by obtain ⟨_, _, _, _, rfl, _⟩ := hslc1; kernel_rfl)) ?_; rintro v3 w ⟨hS, hv3⟩
    replace hS : Sat w0 w [.blk _ [_, _, _, _, _], .blk _ [_, _, _, _, _], _, _, _, _, _, .blk _ [_, _, _, _, _], _, _] := hS
    refine zla (xap 5 (r := t.nc + 1) sl_23 el_22 hS (hS.rowN 9 rfl) (cat_gsn _ _ _) (h1 := fun _ _ _ => hslc1.one)) ?_; rintro v4 w ⟨hS, hv4⟩
    replace hS : Sat w0 w [.blk _ [_, _, _, _, _], .blk _ [_, _, _, _, _], _, _, _, _, _, .blk _ [_, _, _, _, _], _, _] := hS
    replace hS := Sat.merge2 (l1 := [_, _]) (l2 := [_, _, _]) (l3 := [_, _, _]) hS (by omega)
    have hrs1 := fun k (k0 : 0 ≤ k) (k1 : k < t.nc + 1) => hS.slhIn 5 rfl k0 k1
    replace hS : Sat w0 w [.blk _ [_, _, _, _, _], .blk _ [_, _, _, _, _], _, _, _, _, .blk _ [_, _, _, _, _], _, _] := hS
    refine zlv (xfb 4 fd_25_4) ?_
    refine zle (xsb 6 pl_23 hS (hv := hv4.one)) ?_; clear hS; rintro w hS
    replace hS : Sat w0 w [.blk _ [_, _, _, _, _], .blk _ [_, _, _, _, _], _, _, _, _, .blk _ [_, _, _, _, _], _, _] := hS
    refine zln <| ztn <| zsq <| zrg ?_
    refine zlv (xls 6 st_25 hS) ?_
    replace hS := hS.rerows (vv' := gsn yvc2 t.nc vc1) (ln' := (addT t row).ln) (f' := (addT t row).C) 5 rfl (fun k k0 k1 => by
      dsimp only [addT]
      by_cases e : k < t.nc
      · refine ⟨rfl, ?_, fun j _ _ => ?_⟩
        · rw [gsn_lt (by omega), gsn_lt e]
        · rw [gsn_lt (by omega), gsn_lt e]
      · refine ⟨rfl, ?_, fun b b0 b1 => ?_⟩
        · rw [gsn_at (by omega), gsn_at e]; exact hcn
        · rw [gsn_at (by omega), gsn_at e]; exact hcf b b0 (by rw [gsn_at (by omega)] at b1; exact b1)
      )
    replace hS : Sat w0 w [.blk _ [_, _, _, _, _], .blk _ [_, _, _, _, _], _, _, _, _, .blk _ [_, _, _, _, _], _, _] := hS
    have hrr1 := fun k (k0 : 0 ≤ k) (k1 : k < t.nc + 1) => hS.slhIn 5 rfl k0 k1
    refine zle (xsw 1 st_25 hS (hd := (ones_cons rfl (ones_cons rfl (ones_cons hv2.one (ones_cons hyFc2.one (ones_cons hv4.one ones_nil))))))) ?_; clear hS; rintro w hS
    replace hS : Sat w0 w [.blk _ [_, _, _, _, _], .blk _ [_, _, _, _, _], _, _, _, _, .blk _ [_, _, _, _, _], _, _] := hS
    refine zlv xas ?_
    refine zln <| ztn <| zrt <| zfct 1 st_25 hS ⟨_, rfl, ?_⟩
    exact ⟨_, _, _, _, addT t row, 0, rfl, .inr (.inr (.inr (.inr ⟨hp, hr0, hr1, hmd, by omega, rfl, rfl⟩))), hv2, hyFc2, hv4, hS.pk [2, 3, 4, 5]⟩

/-- What a round yields: an optimal tableau (and the slices that hold it), whether there is a fraction in it, an error. -/
structure GX where
  t : Tb
  vB : Value
  vF : Value
  vC : Value
  vv : Int → Value
  fr : Prop
  e : Int
/-- Behind rounds that yielded the optimal tableaux us, one more cut behind each, the tableau t and the error e are at hand. -/
inductive Rn (p : Lp) : List Tb → Tb → Int → Prop
  | start {t : Tb} {e : Int} (h : StartR p t e) : Rn p [] t e
  | cut {us : List Tb} {t u t' : Tb} {e' : Int} (h : Rn p us t 0) (ho : OptR t u 0) (hp : TPrp u) (hf : 0 ≤ gfr u u.nb.toNat) (ha : AddR u (gfr u u.nb.toNat) t' e') : Rn p (us ++ [u]) t' e'
def GOk (s : List GX) : Prop := ∀ y ∈ s, y.fr ∧ y.e = 0
def GPre (p : Lp) (s : List GX) (x : GX) (rest : Gw.Frame) : Prop := ∃ t e, Rn p (s.map GX.t) t e ∧ GOk s ∧ Slh x.vB x.t.nb ∧ Slh x.vF x.t.nf ∧ Slh x.vC x.t.nc ∧
  ((x.e ≠ 0 ∧ ¬ x.fr ∧ ((e = x.e ∧ e ≠ 0) ∨ (e = 0 ∧ ∃ u, OptR t u x.e))) ∨
   (x.e = 0 ∧ e = 0 ∧ OptR t x.t 0 ∧ TPrp x.t ∧ (x.fr ↔ 0 ≤ gfr x.t x.t.nb.toNat) ∧ ∀ w, rest.holds w → TAt w x.vB x.vF x.vC x.vv x.t))
def GFin (p : Lp) (Kx : GX → Prop) (s : List GX) (rest : Gw.Frame) : Prop := ∃ s' x, s = s' ++ [x] ∧ Kx x ∧ GPre p s' x rest ∧ ¬ x.fr
theorem OptR.prp {t u : Tb} (h : OptR t u 0) : TPrp u ∧ u.nb = t.nb := by
  obtain ⟨u', f, hr, ⟨hf, _, rfl⟩ | ⟨hf, he, _⟩⟩ := h
  · subst hf; exact ⟨(hr.fin (.inl rfl)).1, hr.dims.1⟩
  · exact absurd he.symm hf
theorem tat_of {w : World} {l : List Ent} {vB vF vC : Value} {vv : Int → Value} {t : Tb} {E1 E2 E3 E4 : TypeId} (h : (Frame.bun l).holds w) (h1 : Ent.own vB 1 E1 t.nb (ints t.B) ∈ l) (h2 : Ent.own vF 1 E2 t.nf (ints t.F) ∈ l) (h3 : Ent.own vC 1 E3 t.nc vv ∈ l) (h4 : Ent.sem (Frame.rows E4 t.nc vv t.ln t.C) ∈ l) : TAt w vB vF vC vv t :=
  have h5 := h.1 _ h4
  ⟨(h.1 _ h1).row, (h.1 _ h2).row, (h.1 _ h3).row, fun k k0 k1 => (h5.1 k k0 k1).row, fun k k0 k1 => (h5.1 k k0 k1).roomy⟩

set_option maxRecDepth 20000 in
theorem c_rounds1 {vc vA vb : Value} {vq : Int → Value} {p : Lp} {gp : Nat} {St Tt : Type} (hist : St → List GX) (s0 : St) (hs0 : hist s0 = []) (Kx : GX → Prop) (Sx : St → GX → Tt → Prop) (w0 : World) (hL : LAt w0 vc vA vb vq p) : ItC (St := St) (X := GX) (Tt := Tt) Try.prog w0 109 [.pointer (some ⟨gp, 0, none⟩)] [.blk gp [vc, vA, vb]] (fun x => [.agg #[.int .i64 x.t.vars, .int .i64 x.t.den, x.vB, x.vF, x.vC, B x.fr, .int .i64 x.e]]) (fun s x rest => GPre p (hist s) x rest) (fun s x s1 => hist s1 = hist s ++ [x] ∧ Kx x) (Sx) (s0) (fun s rest => GFin p Kx (hist s) rest) (fun t rest => ∃ s x, Sx s x t ∧ GPre p (hist s) x rest) := by
  intro l C D w hS hY
  have hn := hL.c.slh.n0; have hn1 := hL.c.slh.n1; have hm := hL.A.row.slh.n0; have hm1 := hL.A.row.slh.n1; have hk := hL.b.slh.n0; have hk1 := hL.b.slh.n1
  refine henI Try.func109 Try.ntmps109 ?_
  refine hsq <| hrz ?_
  refine zlv (xls 1 st_48 hS) ?_
  refine zlc (xc0 cl_26) (c_start (p := p) w (hL.below hS.below)) ?_; rintro _ w ⟨vBk1, vFk1, vCk1, vvk1, tk1, ek1, rfl, hstk1, hsBk1, hsFk1, hsCk1, hS'⟩
  replace hS : Sat w0 w [.sem (C s0), .blk gp [vc, vA, vb], .own vBk1 1 3 tk1.nb (ints tk1.B), .own vFk1 1 3 tk1.nf (ints tk1.F), .own vCk1 1 22 tk1.nc vvk1, .sem (Frame.rows 3 tk1.nc vvk1 tk1.ln tk1.C)] := hS.comp hS'; clear hS'
  have hrsk1 := fun k (k0 : 0 ≤ k) (k1 : k < tk1.nc) => hS.slhIn 5 rfl k0 k1
  refine zlv xmv ?_
  iterate 2 refine zlv xex ?_
  refine zla (xal (cs := [_, _, _, _, _]) el_28 hS) ?_; rintro _ w ⟨g1, rfl, hS⟩
  replace hS : Sat w0 w [_, .blk _ [_, _, _], _, _, _, _, .blk _ [_, _, _, _, _]] := hS
  refine zle (xsw 6 st_28 hS (hd := (ones_cons rfl (ones_cons rfl (ones_cons hsBk1.one (ones_cons hsFk1.one (ones_cons hsCk1.one ones_nil))))))) ?_; clear hS; rintro w hS
  replace hS : Sat w0 w [_, .blk _ [_, _, _], _, _, _, _, .blk _ [_, _, _, _, _]] := hS
  refine zlv xas ?_
  refine zln <| zh <| htn <| hbk <| hlp (fun mm M w => ∃ (s : St) (t : Tb) (vB : Value) (vF : Value) (vC : Value) (vv : Int → Value) (e : Int), mm = (if e = 0 then (20 - t.nb).toNat else 0) ∧ (Rn p ((hist s).map GX.t) t e) ∧ (GOk (hist s)) ∧ (Slh vB t.nb) ∧ (Slh vF t.nf) ∧ (Slh vC t.nc) ∧ M = [(0, .func (.yield l) #[] #[]), (3, .pointer (some ⟨g1, 0, none⟩)), (4, .int .i64 e)] ∧ Sat w0 w [.sem (C s), .blk gp [vc, vA, vb], .blk g1 [.int .i64 t.vars, .int .i64 t.den, vB, vF, vC], .own vB 1 3 t.nb (ints t.B), .own vF 1 3 t.nf (ints t.F), .own vC 1 22 t.nc vv, .sem (Frame.rows 3 t.nc vv t.ln t.C)]) ⟨s0, tk1, vBk1, vFk1, vCk1, vvk1, ek1, rfl, ?_, ?_, ?_, ?_, ?_, rfl, hS.pk [0, 1, 6, 2, 3, 4, 5]⟩ ?_
  ·
   rw [hs0]; exact .start hstk1
  ·
   rw [hs0]; intro y hy; cases hy
  ·
   exact hsBk1
  ·
   exact hsFk1
  ·
   exact hsCk1
  ·
   clear hS w
   rintro mm M w ⟨s, t, vB, vF, vC, vv, e, rfl, hRn, hok, hsB, hsF, hsC, rfl, hS⟩
   have hrs := fun k (k0 : 0 ≤ k) (k1 : k < t.nc) => hS.slhIn 6 rfl k0 k1
   refine hbk <| hsq <| hsq <| hrz ?_
   refine zlv xmv ?_
   refine zlv xeql ?_
   refine zln <| zh <| htn ?_
   refine hcif ?_ ?_ <;> intro hc
   ·
    refine hrz ?_
    refine zlv (xls 2 st_28 hS) ?_
    refine zlc (xc0 cl_28) (c_Optimize (t := t) w (⟨(hS.rowN 3 rfl), (hS.rowN 4 rfl), (⟨(hS.rowN 5 rfl), fun k k0 k1 => hS.rowIn 6 rfl k0 k1, fun k k0 k1 => hS.roomIn 6 rfl k0 k1⟩ : MAt _ vC t.nc vv t.ln t.C)⟩ : TAt _ vB vF vC vv t)) ?_; rintro _ w ⟨vBk2, vFk2, vCk2, vvk2, tk2, ek2, rfl, hopk2, hsBk2, hsFk2, hsCk2, hS'⟩
    replace hS : Sat w0 w [.sem (C s), .blk gp [vc, vA, vb], .blk g1 [.int .i64 t.vars, .int .i64 t.den, vB, vF, vC], .own vB 1 3 t.nb (ints t.B), .own vF 1 3 t.nf (ints t.F), .own vC 1 22 t.nc vv, .sem (Frame.rows 3 t.nc vv t.ln t.C), .own vBk2 1 3 tk2.nb (ints tk2.B), .own vFk2 1 3 tk2.nf (ints tk2.F), .own vCk2 1 22 tk2.nc vvk2, .sem (Frame.rows 3 tk2.nc vvk2 tk2.ln tk2.C)] := hS.comp hS'; clear hS'
    have hrsk2 := fun k (k0 : 0 ≤ k) (k1 : k < tk2.nc) => hS.slhIn 10 rfl k0 k1
    refine zlv xmv ?_
    iterate 2 refine zlv xex ?_
    refine zle (xsw 2 st_28 hS (hd := (ones_cons rfl (ones_cons rfl (ones_cons hsBk2.one (ones_cons hsFk2.one (ones_cons hsCk2.one ones_nil))))))) ?_; clear hS; rintro w hS
    replace hS : Sat w0 w [_, .blk _ [_, _, _], .blk _ [_, _, _, _, _], _, _, _, _, _, _, _, _] := hS
    refine zlv xas ?_
    refine zln <| zh <| htn <| hsq <| hsq <| hrz ?_
    refine zlv xmv ?_
    refine zlv xneq ?_
    refine zln <| zh <| htn ?_
    refine hcif ?_ ?_ <;> intro hc
    ·
     refine hsq <| hrg ?_
     iterate 2 refine hlv xmv ?_
     refine hlv (xany (v := .agg #[.int .i64 0, .int .i64 0, .slice none 0 0, .slice none 0 0, .slice none 0 0, .bool false, .int .i64 ek2])) ?_
     refine hlas 24 (u := .agg #[.int .i64 0, .int .i64 0, .slice none 0 0, .slice none 0 0, .slice none 0 0, B (False), .int .i64 ek2]) (by rw [B_false not_false]) ?_
     obtain rfl : e = 0 := by omega
     have hprey1 : GPre p (hist s) ⟨Tb.zero, .slice none 0 0, .slice none 0 0, .slice none 0 0, fun _ => undef, False, ek2⟩ (Frame.bun [.blk g1 [.int .i64 tk2.vars, .int .i64 tk2.den, vBk2, vFk2, vCk2], .own vB 1 3 t.nb (ints t.B), .own vF 1 3 t.nf (ints t.F), .own vC 1 22 t.nc vv, .sem (Frame.rows 3 t.nc vv t.ln t.C), .own vBk2 1 3 tk2.nb (ints tk2.B), .own vFk2 1 3 tk2.nf (ints tk2.F), .own vCk2 1 22 tk2.nc vvk2, .sem (Frame.rows 3 tk2.nc vvk2 tk2.ln tk2.C)]) := ⟨t, 0, hRn, hok, slh_nil, slh_nil, slh_nil, .inl ⟨by omega, not_false, .inr ⟨rfl, _, hopk2⟩⟩⟩
     refine hly (hY s _ _ w hprey1 (Sat.bundle (l1 := [_, _]) hS)) ?_; rintro _ w (⟨rfl, sy1, hny1, hS⟩ | ⟨rfl, ty1, hdy1, hS⟩)
     ·
      replace hS := Sat.unbundle (l1 := [_, _]) (l3 := []) hS
      replace hS : Sat w0 w [_, .blk _ [_, _, _], .blk _ [_, _, _, _, _], _, _, _, _, _, _, _, _] := hS
      refine hln <| htn <| hrt <| ztr <| zbr <| ztr <| zbr <| zf0 ⟨_, rfl, ?_⟩
      exact .inl ⟨sy1, _, ⟨hist s, _, hny1.1, hny1.2, hprey1, by first | exact not_false | assumption⟩, Sat.bundle (l1 := [_, _]) hS⟩
     ·
      replace hS := Sat.unbundle (l1 := [_, _]) (l3 := []) hS
      replace hS : Sat w0 w [_, .blk _ [_, _, _], .blk _ [_, _, _, _, _], _, _, _, _, _, _, _, _] := hS
      refine hln <| htn <| hrt <| ztr <| zbr <| ztr <| zbr <| zf0 ⟨_, rfl, ?_⟩
      exact .inr ⟨ty1, _, ⟨s, _, hdy1, hprey1⟩, Sat.bundle (l1 := [_, _]) hS⟩
    ·
     refine hsk <| htn <| hsq <| hrz ?_
     refine zlv (xls 2 st_28 hS) ?_
     refine zlc (xc0 cl_16) (c_frac (t := tk2) w (⟨(hS.rowN 7 rfl), (hS.rowN 8 rfl), (⟨(hS.rowN 9 rfl), fun k k0 k1 => hS.rowIn 10 rfl k0 k1, fun k k0 k1 => hS.roomIn 10 rfl k0 k1⟩ : MAt _ vCk2 tk2.nc vvk2 tk2.ln tk2.C)⟩ : TAt _ vBk2 vFk2 vCk2 vvk2 tk2)) ?_; rintro _ w ⟨rf1, okf1, ef1, rfl, hfrf1, hS'⟩
     replace hS := hS.cmp hS'; clear hS'
     refine zlv xmv ?_
     iterate 3 refine zlv xex ?_
     iterate 3 refine zlv xas ?_
     refine zln <| zh <| htn <| hsq <| hsq <| hrg ?_
     refine hlv xmv ?_
     refine hlv (xls 2 st_28 hS) ?_
     refine hlv xmv ?_
     refine hlv (xany (v := .agg #[.int .i64 tk2.vars, .int .i64 tk2.den, vBk2, vFk2, vCk2, B (okf1), .int .i64 0]) (hr := by obtain ⟨_, _, _, _, rfl, _⟩ := hsBk2; obtain ⟨_, _, _, _, rfl, _⟩ := hsFk2; obtain ⟨_, _, _, _, rfl, _⟩ := hsCk2; kernel_rfl)) ?_
     obtain rfl : e = 0 := by omega
     have hop0 : OptR t tk2 0 := by have := hopk2; rwa [show ek2 = 0 by omega] at this
     have hpu := hop0.prp
     obtain ⟨_, hfr1, hfr2, hfr3⟩ : TPrp tk2 ∧ rf1 = max (gfr tk2 tk2.nb.toNat) 0 ∧ (okf1 ↔ 0 ≤ gfr tk2 tk2.nb.toNat) ∧ ef1 = 0 := hfrf1.resolve_left (fun h => h.1 hpu.1)
     have hprey2 : GPre p (hist s) ⟨tk2, vBk2, vFk2, vCk2, vvk2, okf1, 0⟩ (Frame.bun [.blk g1 [.int .i64 tk2.vars, .int .i64 tk2.den, vBk2, vFk2, vCk2], .own vB 1 3 t.nb (ints t.B), .own vF 1 3 t.nf (ints t.F), .own vC 1 22 t.nc vv, .sem (Frame.rows 3 t.nc vv t.ln t.C), .own vBk2 1 3 tk2.nb (ints tk2.B), .own vFk2 1 3 tk2.nf (ints tk2.F), .own vCk2 1 22 tk2.nc vvk2, .sem (Frame.rows 3 tk2.nc vvk2 tk2.ln tk2.C)]) := ⟨t, 0, hRn, hok, hsBk2, hsFk2, hsCk2, .inr ⟨rfl, rfl, hop0, hpu.1, hfr2, fun w h => tat_of h (List.mem_of_getElem? (i := 5) rfl) (List.mem_of_getElem? (i := 6) rfl) (List.mem_of_getElem? (i := 7) rfl) (List.mem_of_getElem? (i := 8) rfl)⟩⟩
     refine hly (hY s _ _ w hprey2 (Sat.bundle (l1 := [_, _]) hS)) ?_; rintro _ w (⟨rfl, sy2, hny2, hS⟩ | ⟨rfl, ty2, hdy2, hS⟩)
     ·
      replace hS := Sat.unbundle (l1 := [_, _]) (l3 := []) hS
      replace hS : Sat w0 w [_, .blk _ [_, _, _], .blk _ [_, _, _, _, _], _, _, _, _, _, _, _, _] := hS
      refine hlv xnt ?_
      iterate 2 refine hlv xmv ?_
      refine hlv xnot ?_
      refine hlv xpf ?_
      refine hln <| htn ?_
      refine hcif ?_ ?_ <;> intro hc
      ·
       refine hrt <| ztr <| zbr <| ztr <| zbr <| zf0 ⟨_, rfl, ?_⟩
       exact .inl ⟨sy2, _, ⟨hist s, _, hny2.1, hny2.2, hprey2, by first | exact not_false | assumption⟩, Sat.bundle (l1 := [_, _]) hS⟩
      ·
       refine hsk <| htn <| hrz ?_
       refine zlv (xls 2 st_28 hS) ?_
       refine zlv xmv ?_
       have hrr := hfrf1.rng; have hbn := hpu.1.m2
       refine zlc (xc0 cl_20) (c_add (t := tk2) (row := rf1) w (⟨(hS.rowN 7 rfl), (hS.rowN 8 rfl), (⟨(hS.rowN 9 rfl), fun k k0 k1 => hS.rowIn 10 rfl k0 k1, fun k k0 k1 => hS.roomIn 10 rfl k0 k1⟩ : MAt _ vCk2 tk2.nc vvk2 tk2.ln tk2.C)⟩ : TAt _ vBk2 vFk2 vCk2 vvk2 tk2) (by omega)) ?_; rintro _ w ⟨vBk3, vFk3, vCk3, vvk3, tk3, ek3, rfl, hadk3, hsBk3, hsFk3, hsCk3, hS'⟩
       replace hS : Sat w0 w [.sem (C sy2), .blk gp [vc, vA, vb], .blk g1 [.int .i64 tk2.vars, .int .i64 tk2.den, vBk2, vFk2, vCk2], .own vB 1 3 t.nb (ints t.B), .own vF 1 3 t.nf (ints t.F), .own vC 1 22 t.nc vv, .sem (Frame.rows 3 t.nc vv t.ln t.C), .own vBk2 1 3 tk2.nb (ints tk2.B), .own vFk2 1 3 tk2.nf (ints tk2.F), .own vCk2 1 22 tk2.nc vvk2, .sem (Frame.rows 3 tk2.nc vvk2 tk2.ln tk2.C), .own vBk3 1 3 tk3.nb (ints tk3.B), .own vFk3 1 3 tk3.nf (ints tk3.F), .own vCk3 1 22 tk3.nc vvk3, .sem (Frame.rows 3 tk3.nc vvk3 tk3.ln tk3.C)] := hS.comp hS'; clear hS'
       have hrsk3 := fun k (k0 : 0 ≤ k) (k1 : k < tk3.nc) => hS.slhIn 14 rfl k0 k1
       refine zlv xmv ?_
       iterate 2 refine zlv xex ?_
       refine zle (xsw 2 st_28 hS (hd := (ones_cons rfl (ones_cons rfl (ones_cons hsBk3.one (ones_cons hsFk3.one (ones_cons hsCk3.one ones_nil))))))) ?_; clear hS; rintro w hS
       replace hS : Sat w0 w [_, .blk _ [_, _, _], .blk _ [_, _, _, _, _], _, _, _, _, _, _, _, _, _, _, _, _] := hS
       refine zlv xas ?_
       refine zln <| zh <| zbn <| hlq ⟨sy2, tk3, vBk3, vFk3, vCk3, vvk3, ek3, rfl, ?_, ?_, ?_, ?_, ?_, rfl, hS.pk [0, 1, 2, 11, 12, 13, 14]⟩ (hlt := (by rw [if_pos rfl]; have hd1 := hpu.2; have hd2 := hpu.1.m2; split <;> rename_i hz; (have hq := hadk3.nb hz; omega); omega))
       ·
        rw [hny2.1, List.map_append]
        exact .cut hRn hop0 hpu.1 (hfr2.1 (by first | assumption | exact Classical.not_not.1 ‹_›)) (by have hq := hadk3; rwa [show rf1 = gfr tk2 tk2.nb.toNat by have := hfr2.1 (by first | assumption | exact Classical.not_not.1 ‹_›); omega] at hq)
       ·
        rw [hny2.1]; intro y hy; rcases List.mem_append.1 hy with hy | hy
        · exact hok y hy
        · obtain rfl := List.mem_singleton.1 hy; exact ⟨(by first | assumption | exact Classical.not_not.1 ‹_›), rfl⟩
       ·
        exact hsBk3
       ·
        exact hsFk3
       ·
        exact hsCk3
     ·
      replace hS := Sat.unbundle (l1 := [_, _]) (l3 := []) hS
      replace hS : Sat w0 w [_, .blk _ [_, _, _], .blk _ [_, _, _, _, _], _, _, _, _, _, _, _, _] := hS
      refine hlv xnf ?_
      refine hlv xmv ?_
      iterate 2 refine hlo ?_
      refine hlv xpt ?_
      refine hln <| htn <| hct <| hrt <| ztr <| zbr <| ztr <| zbr <| zf0 ⟨_, rfl, ?_⟩
      exact .inr ⟨ty2, _, ⟨s, _, hdy2, hprey2⟩, Sat.bundle (l1 := [_, _]) hS⟩
   ·
    refine hsk <| htn <| hsq <| hsq <| hrz ?_
    refine zlv xmv ?_
    refine zlv xneq ?_
    refine zln <| zh <| htn ?_
    refine hcif ?_ ?_ <;> intro hc
    ·
     refine hsq <| hrg ?_
     iterate 2 refine hlv xmv ?_
     refine hlv (xany (v := .agg #[.int .i64 0, .int .i64 0, .slice none 0 0, .slice none 0 0, .slice none 0 0, .bool false, .int .i64 e])) ?_
     refine hlas 24 (u := .agg #[.int .i64 0, .int .i64 0, .slice none 0 0, .slice none 0 0, .slice none 0 0, B (False), .int .i64 e]) (by rw [B_false not_false]) ?_
     have hprey3 : GPre p (hist s) ⟨Tb.zero, .slice none 0 0, .slice none 0 0, .slice none 0 0, fun _ => undef, False, e⟩ (Frame.bun [.blk g1 [.int .i64 t.vars, .int .i64 t.den, vB, vF, vC], .own vB 1 3 t.nb (ints t.B), .own vF 1 3 t.nf (ints t.F), .own vC 1 22 t.nc vv, .sem (Frame.rows 3 t.nc vv t.ln t.C)]) := ⟨t, e, hRn, hok, slh_nil, slh_nil, slh_nil, .inl ⟨by omega, not_false, .inl ⟨rfl, by omega⟩⟩⟩
     refine hly (hY s _ _ w hprey3 (Sat.bundle (l1 := [_, _]) hS)) ?_; rintro _ w (⟨rfl, sy3, hny3, hS⟩ | ⟨rfl, ty3, hdy3, hS⟩)
     ·
      replace hS := Sat.unbundle (l1 := [_, _]) (l3 := []) hS
      replace hS : Sat w0 w [_, .blk _ [_, _, _], .blk _ [_, _, _, _, _], _, _, _, _] := hS
      refine hln <| htn <| hrt <| ztr <| zbr <| ztr <| zbr <| zf0 ⟨_, rfl, ?_⟩
      exact .inl ⟨sy3, _, ⟨hist s, _, hny3.1, hny3.2, hprey3, by first | exact not_false | assumption⟩, Sat.bundle (l1 := [_, _]) hS⟩
     ·
      replace hS := Sat.unbundle (l1 := [_, _]) (l3 := []) hS
      replace hS : Sat w0 w [_, .blk _ [_, _, _], .blk _ [_, _, _, _, _], _, _, _, _] := hS
      refine hln <| htn <| hrt <| ztr <| zbr <| ztr <| zbr <| zf0 ⟨_, rfl, ?_⟩
      exact .inr ⟨ty3, _, ⟨s, _, hdy3, hprey3⟩, Sat.bundle (l1 := [_, _]) hS⟩
    ·
     exfalso; omega

theorem c_rounds {vc vA vb : Value} {vq : Int → Value} {p : Lp} (w0 : World) (hL : LAt w0 vc vA vb vq p) :
    Calls Try.prog 72 [.agg #[vc, vA, vb]].toArray w0 fun e w => ∃ v, e = .returned v ∧ ∃ g, v = .func (.func 109) #[] #[.pointer (some ⟨g, 0, none⟩)] ∧ Sat w0 w [.blk g [vc, vA, vb]] := by
  refine zenG Try.func72 Try.ntmps72 fun w hS => ?_
  refine zsq <| zrg ?_
  refine zla (xbx (cs := [_, _, _]) hS) ?_; rintro _ w ⟨g1, rfl, hS⟩
  replace hS : Sat w0 w [.blk _ [_, _, _]] := hS
  refine zlv xas ?_
  refine zln <| ztn <| zsq <| zrg ?_
  refine zlv xmf ?_
  refine zlv xas ?_
  refine zln <| ztn <| zrt <| zf1 ⟨_, rfl, ?_⟩
  exact ⟨_, rfl, hS⟩

end Go.Proofs.Ytelfplepnodbgaa
