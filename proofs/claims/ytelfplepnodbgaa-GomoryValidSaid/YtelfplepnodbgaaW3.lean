/- The walk of proper, of tableau. -/
import Derived.Test.YtelfplepnodbgaaGc
import Derived.Test.YtelfplepnodbgaaW2
namespace Go.Proofs.Ytelfplepnodbgaa
open Go Go.RowKit Go.Proofs.Gw
set_option linter.unusedVariables false

theorem cl_100 : calledT Try.prog 100 = true := by kernel_rfl
theorem cl_104 : calledT Try.prog 104 = true := by kernel_rfl
theorem cl_105 : calledT Try.prog 105 = true := by kernel_rfl
theorem cl_111 : calledT Try.prog 111 = true := by kernel_rfl
theorem cl_132 : calledT Try.prog 132 = true := by kernel_rfl
theorem cl_78 : calledT Try.prog 78 = true := by kernel_rfl
theorem cl_98 : calledT Try.prog 98 = true := by kernel_rfl
theorem cl_99 : calledT Try.prog 99 = true := by kernel_rfl
theorem el_22 : elemT Try.prog 22 = some (.slice none 0 0, 1, 24) := by kernel_rfl
theorem fd_28_0 : fieldT Try.prog 28 0 = some 0 := by kernel_rfl
theorem fd_28_1 : fieldT Try.prog 28 1 = some 1 := by kernel_rfl
theorem fd_28_2 : fieldT Try.prog 28 2 = some 2 := by kernel_rfl
theorem fd_28_3 : fieldT Try.prog 28 3 = some 3 := by kernel_rfl
theorem fd_28_4 : fieldT Try.prog 28 4 = some 4 := by kernel_rfl
theorem mx_ : Try.prog.follows .mixedOrders = true := by kernel_rfl
theorem pl_23 : plainT Try.prog 23 = true := by kernel_rfl
theorem c_wr1p {v : Value} {n q : Int} {f : Int → Int} {a1 : Addr} (w0 : World) (hR : Row w0 v 1 n (ints f)) (hp1 : w0.cell? a1 = some (.int .i64 q)) (hq : 0 ≤ q ∧ q ≤ 100) :
    Calls Try.prog 132 [v, .pointer (some a1)].toArray w0 fun e w => ∃ v, e = .returned v ∧ v = B (¬ (n = q + 1 ∧ Btw f n 1073741824)) ∧ Sat w0 w [] := by
  have hn1 := hR.slh.n1
  refine zenG Try.func132 Try.ntmps132 fun w hS => ?_
  refine zsq <| zrg ?_
  refine zlv xas ?_
  refine zln <| ztn <| zsq <| zrg ?_
  refine zlv xmv ?_
  refine zlv (xln sl_22 hR.slh) ?_
  refine zlv (xlf pl_3 hp1 hS) ?_
  refine zlv (xadd (r := q + 1)) ?_
  refine zlv xneq ?_
  refine zlv xmv ?_
  refine zlb 9 ?_ ?_ <;> intro hc
  ·
   iterate 3 refine zlo ?_
   refine zlv xpt ?_
   refine zlv xas ?_
   refine zln <| ztn <| zrt <| zf1 ⟨_, rfl, ?_⟩
   exact ⟨true_B (by omega), hS⟩
  ·
   refine zlv xmv ?_
   refine zlc (xc0 cl_104) (c_between (n := n) (m := 1073741824) (f := f) w (hR.below hS.below) (by omega)) ?_; rintro _ w ⟨rfl, hS'⟩
   replace hS := hS.cmp hS'; clear hS'
   refine zlv xnot ?_
   refine zlv xpf ?_
   refine zlv xas ?_
   refine zln <| ztn <| zrt <| zf1 ⟨_, rfl, ?_⟩
   exact ⟨B_congr (by exact ⟨fun h hh => h hh.2, fun h hh => h ⟨by omega, hh⟩⟩), hS⟩

theorem c_ixmp {v : Value} {n q : Int} {vv : Int → Value} {ln : Int → Int} {f : Int → Int → Int} {a1 : Addr} (w0 : World) (hM : MAt w0 v n vv ln f) (hp1 : w0.cell? a1 = some (.int .i64 q)) (hq : 0 ≤ q ∧ q ≤ 100) :
    Calls Try.prog 111 [v, .func (.func 132) #[] #[.pointer (some a1)]].toArray w0 fun e w => ∃ v, e = .returned v ∧ ∃ r : Int, v = .int .i64 r ∧ ((r = -1 ∧ ∀ k, 0 ≤ k → k < n → ¬ (¬ ((ln k) = q + 1 ∧ Btw (f k) (ln k) 1073741824))) ∨ (0 ≤ r ∧ r < n ∧ (¬ ((ln r) = q + 1 ∧ Btw (f r) (ln r) 1073741824)))) ∧ Sat w0 w [] := by
  have hn := hM.row.slh.n0; have hn1 := hM.row.slh.n1
  refine zenG Try.func111 Try.ntmps111 fun w hS => ?_
  refine zsq <| zrg ?_
  refine zlv xas ?_
  refine zln <| ztn <| zsq <| zsq <| zrg ?_
  refine zlv xmv ?_
  refine zlv (xln sl_23 hM.row.slh) ?_
  refine zlv xmv ?_
  refine zln <| ztn <| zbk <| zlp (fun mm M w => ∃ (i : Int), mm = ((n - i).toNat) ∧ (0 ≤ i) ∧ (i ≤ n) ∧ (∀ k, 0 ≤ k → k < i → ¬ (¬ ((ln k) = q + 1 ∧ Btw (f k) (ln k) 1073741824))) ∧ M = [(0, v), (1, .func (.func 132) #[] #[.pointer (some a1)]), (7, .int .i64 n), (8, .int .i64 i)] ∧ Sat w0 w []) ⟨0, rfl, (by omega), (by omega), ?_, rfl, hS⟩ ?_
  ·
   intro k h0 h1; omega
  ·
   clear hS w
   rintro mm M w ⟨i, rfl, h0, h1, hall, rfl, hS⟩
   refine zsq <| zrg ?_
   refine zlv xlss ?_
   refine zln <| ztn <| zsq ?_
   refine zcif ?_ ?_ <;> intro hc
   ·
    refine zsk <| ztn <| zsq <| zbk <| zsq <| zrg ?_
    refine zlv xmv ?_
    refine zlv xas ?_
    refine zln <| ztn <| zsq <| zrg ?_
    iterate 3 refine zlv xmv ?_
    refine zlv (xix (kk := i) sl_23 hM.row.slh) ?_
    refine zlv (xlr (u := (vv i)) pl_22 (hM.row.below hS.below)) ?_
    refine zlc (xcc (vs := [_]) cl_132) (c_wr1p (n := (ln i)) (q := q) (f := (f i)) w ((hM.p i (by omega) (by omega)).below hS.below) (hS.ref hp1) hq) ?_; rintro _ w ⟨rfl, hS'⟩
    replace hS := hS.cmp hS'; clear hS'
    refine zln <| ztn ?_
    refine zcif ?_ ?_ <;> intro hc
    ·
     refine zsq <| zrg ?_
     refine zlv xmv ?_
     refine zlv xas ?_
     refine zln <| ztn <| zrt <| zbr <| ztr <| ztr <| zbr <| ztr <| zf1 ⟨_, rfl, ?_⟩
     exact ⟨i, rfl, .inr ⟨by omega, by omega, ‹¬ ((ln i) = q + 1 ∧ Btw (f i) (ln i) 1073741824)›⟩, hS⟩
    ·
     refine zsk <| zbn <| ztn <| zrg ?_
     refine zlv (xadd (r := i + 1)) ?_
     refine zlv xmv ?_
     refine zln <| zlq ⟨i + 1, rfl, (by omega), (by omega), ?_, rfl, hS⟩
     ·
      intro k h0' h1'; rcases Int.lt_or_eq_of_le (show k ≤ i by omega) with hk | hk; exact hall k h0' hk; rw [hk]; assumption
   ·
    refine zxt <| ztx <| ztx <| zbh <| ztn <| zsq <| zrg ?_
    refine zlv xas ?_
    refine zln <| ztn <| zrt <| zf1 ⟨_, rfl, ?_⟩
    exact ⟨-1, rfl, .inl ⟨rfl, fun k h0 h1 => hall k h0 (by omega)⟩, hS⟩

theorem c_comp {v : Value} {n q : Int} {vv : Int → Value} {ln : Int → Int} {f : Int → Int → Int} {a1 : Addr} (w0 : World) (hM : MAt w0 v n vv ln f) (hp1 : w0.cell? a1 = some (.int .i64 q)) (hq : 0 ≤ q ∧ q ≤ 100) :
    Calls Try.prog 78 [v, .func (.func 132) #[] #[.pointer (some a1)]].toArray w0 fun e w => ∃ v, e = .returned v ∧ v = B (∃ k, 0 ≤ k ∧ k < n ∧ (¬ ((ln k) = q + 1 ∧ Btw (f k) (ln k) 1073741824))) ∧ Sat w0 w [] := by
  refine zenG Try.func78 Try.ntmps78 fun w hS => ?_
  refine zsq <| zrg ?_
  refine zlv xas ?_
  refine zln <| ztn <| zsq <| zrg ?_
  iterate 2 refine zlv xmv ?_
  refine zlc (xc0 cl_111) (c_ixmp w (hM.below hS.below) (hS.ref hp1) hq) ?_; rintro _ w ⟨r1, rfl, hr1, hS'⟩
  replace hS := hS.cmp hS'; clear hS'
  refine zlv xgeq ?_
  refine zlv xas ?_
  refine zln <| ztn <| zrt <| zf1 ⟨_, rfl, ?_⟩
  exact ⟨B_congr (by
   rcases hr1 with ⟨h1, h2⟩ | ⟨h1, h2, h3⟩
   · exact ⟨fun h => by omega, fun ⟨k, h4, h5, h6⟩ => absurd h6 (h2 k h4 h5)⟩
   · exact ⟨fun _ => ⟨_, h1, h2, h3⟩, fun _ => h1⟩), hS⟩

theorem c_wr1v {v : Value} {n q : Int} {f : Int → Int} {a1 : Addr} (w0 : World) (hR : Row w0 v 1 n (ints f)) (hp1 : w0.cell? a1 = some (.int .i64 q)) (hq : 0 ≤ q ∧ q ≤ 100) :
    Calls Try.prog 105 [v, .pointer (some a1)].toArray w0 fun e w => ∃ v, e = .returned v ∧ v = B (¬ (n = q ∧ Btw f n 1000000)) ∧ Sat w0 w [] := by
  have hn1 := hR.slh.n1
  refine zenG Try.func105 Try.ntmps105 fun w hS => ?_
  refine zsq <| zrg ?_
  refine zlv xas ?_
  refine zln <| ztn <| zsq <| zrg ?_
  refine zlv xmv ?_
  refine zlv (xln sl_22 hR.slh) ?_
  refine zlv (xlf pl_3 hp1 hS) ?_
  refine zlv xneq ?_
  refine zlv xmv ?_
  refine zlb 8 ?_ ?_ <;> intro hc
  ·
   iterate 3 refine zlo ?_
   refine zlv xpt ?_
   refine zlv xas ?_
   refine zln <| ztn <| zrt <| zf1 ⟨_, rfl, ?_⟩
   exact ⟨true_B (by omega), hS⟩
  ·
   refine zlv xmv ?_
   refine zlc (xc0 cl_104) (c_between (n := n) (m := 1000000) (f := f) w (hR.below hS.below) (by omega)) ?_; rintro _ w ⟨rfl, hS'⟩
   replace hS := hS.cmp hS'; clear hS'
   refine zlv xnot ?_
   refine zlv xpf ?_
   refine zlv xas ?_
   refine zln <| ztn <| zrt <| zf1 ⟨_, rfl, ?_⟩
   exact ⟨B_congr (by exact ⟨fun h hh => h hh.2, fun h hh => h ⟨by omega, hh⟩⟩), hS⟩

theorem c_ixmv {v : Value} {n q : Int} {vv : Int → Value} {ln : Int → Int} {f : Int → Int → Int} {a1 : Addr} (w0 : World) (hM : MAt w0 v n vv ln f) (hp1 : w0.cell? a1 = some (.int .i64 q)) (hq : 0 ≤ q ∧ q ≤ 100) :
    Calls Try.prog 111 [v, .func (.func 105) #[] #[.pointer (some a1)]].toArray w0 fun e w => ∃ v, e = .returned v ∧ ∃ r : Int, v = .int .i64 r ∧ ((r = -1 ∧ ∀ k, 0 ≤ k → k < n → ¬ (¬ ((ln k) = q ∧ Btw (f k) (ln k) 1000000))) ∨ (0 ≤ r ∧ r < n ∧ (¬ ((ln r) = q ∧ Btw (f r) (ln r) 1000000)))) ∧ Sat w0 w [] := by
  have hn := hM.row.slh.n0; have hn1 := hM.row.slh.n1
  refine zenG Try.func111 Try.ntmps111 fun w hS => ?_
  refine zsq <| zrg ?_
  refine zlv xas ?_
  refine zln <| ztn <| zsq <| zsq <| zrg ?_
  refine zlv xmv ?_
  refine zlv (xln sl_23 hM.row.slh) ?_
  refine zlv xmv ?_
  refine zln <| ztn <| zbk <| zlp (fun mm M w => ∃ (i : Int), mm = ((n - i).toNat) ∧ (0 ≤ i) ∧ (i ≤ n) ∧ (∀ k, 0 ≤ k → k < i → ¬ (¬ ((ln k) = q ∧ Btw (f k) (ln k) 1000000))) ∧ M = [(0, v), (1, .func (.func 105) #[] #[.pointer (some a1)]), (7, .int .i64 n), (8, .int .i64 i)] ∧ Sat w0 w []) ⟨0, rfl, (by omega), (by omega), ?_, rfl, hS⟩ ?_
  ·
   intro k h0 h1; omega
  ·
   clear hS w
   rintro mm M w ⟨i, rfl, h0, h1, hall, rfl, hS⟩
   refine zsq <| zrg ?_
   refine zlv xlss ?_
   refine zln <| ztn <| zsq ?_
   refine zcif ?_ ?_ <;> intro hc
   ·
    refine zsk <| ztn <| zsq <| zbk <| zsq <| zrg ?_
    refine zlv xmv ?_
    refine zlv xas ?_
    refine zln <| ztn <| zsq <| zrg ?_
    iterate 3 refine zlv xmv ?_
    refine zlv (xix (kk := i) sl_23 hM.row.slh) ?_
    refine zlv (xlr (u := (vv i)) pl_22 (hM.row.below hS.below)) ?_
    refine zlc (xcc (vs := [_]) cl_105) (c_wr1v (n := (ln i)) (q := q) (f := (f i)) w ((hM.p i (by omega) (by omega)).below hS.below) (hS.ref hp1) hq) ?_; rintro _ w ⟨rfl, hS'⟩
    replace hS := hS.cmp hS'; clear hS'
    refine zln <| ztn ?_
    refine zcif ?_ ?_ <;> intro hc
    ·
     refine zsq <| zrg ?_
     refine zlv xmv ?_
     refine zlv xas ?_
     refine zln <| ztn <| zrt <| zbr <| ztr <| ztr <| zbr <| ztr <| zf1 ⟨_, rfl, ?_⟩
     exact ⟨i, rfl, .inr ⟨by omega, by omega, ‹¬ ((ln i) = q ∧ Btw (f i) (ln i) 1000000)›⟩, hS⟩
    ·
     refine zsk <| zbn <| ztn <| zrg ?_
     refine zlv (xadd (r := i + 1)) ?_
     refine zlv xmv ?_
     refine zln <| zlq ⟨i + 1, rfl, (by omega), (by omega), ?_, rfl, hS⟩
     ·
      intro k h0' h1'; rcases Int.lt_or_eq_of_le (show k ≤ i by omega) with hk | hk; exact hall k h0' hk; rw [hk]; assumption
   ·
    refine zxt <| ztx <| ztx <| zbh <| ztn <| zsq <| zrg ?_
    refine zlv xas ?_
    refine zln <| ztn <| zrt <| zf1 ⟨_, rfl, ?_⟩
    exact ⟨-1, rfl, .inl ⟨rfl, fun k h0 h1 => hall k h0 (by omega)⟩, hS⟩

theorem c_comv {v : Value} {n q : Int} {vv : Int → Value} {ln : Int → Int} {f : Int → Int → Int} {a1 : Addr} (w0 : World) (hM : MAt w0 v n vv ln f) (hp1 : w0.cell? a1 = some (.int .i64 q)) (hq : 0 ≤ q ∧ q ≤ 100) :
    Calls Try.prog 78 [v, .func (.func 105) #[] #[.pointer (some a1)]].toArray w0 fun e w => ∃ v, e = .returned v ∧ v = B (∃ k, 0 ≤ k ∧ k < n ∧ (¬ ((ln k) = q ∧ Btw (f k) (ln k) 1000000))) ∧ Sat w0 w [] := by
  refine zenG Try.func78 Try.ntmps78 fun w hS => ?_
  refine zsq <| zrg ?_
  refine zlv xas ?_
  refine zln <| ztn <| zsq <| zrg ?_
  iterate 2 refine zlv xmv ?_
  refine zlc (xc0 cl_111) (c_ixmv w (hM.below hS.below) (hS.ref hp1) hq) ?_; rintro _ w ⟨r1, rfl, hr1, hS'⟩
  replace hS := hS.cmp hS'; clear hS'
  refine zlv xgeq ?_
  refine zlv xas ?_
  refine zln <| ztn <| zrt <| zf1 ⟨_, rfl, ?_⟩
  exact ⟨B_congr (by
   rcases hr1 with ⟨h1, h2⟩ | ⟨h1, h2, h3⟩
   · exact ⟨fun h => by omega, fun ⟨k, h4, h5, h6⟩ => absurd h6 (h2 k h4 h5)⟩
   · exact ⟨fun _ => ⟨_, h1, h2, h3⟩, fun _ => h1⟩), hS⟩

set_option maxRecDepth 20000 in
theorem c_proper {vB vF vC : Value} {vv : Int → Value} {t : Tb} (w0 : World) (hT : TAt w0 vB vF vC vv t) :
    Calls Try.prog 123 [.agg #[.int .i64 t.vars, .int .i64 t.den, vB, vF, vC]].toArray w0 fun e w => ∃ v, e = .returned v ∧ v = B (TPrp t) ∧ Sat w0 w [] := by
  have hn := hT.F.slh.n0; have hn1 := hT.F.slh.n1; have hb := hT.B.slh.n0; have hb1 := hT.B.slh.n1; have hc0 := hT.C.row.slh.n0; have hc1 := hT.C.row.slh.n1
  refine zenG Try.func123 Try.ntmps123 fun w hS => ?_
  refine zsq <| zrg ?_
  refine zla (xbx (cs := [_, _, _, _, _]) hS) ?_; rintro _ w ⟨g1, rfl, hS⟩
  replace hS : Sat w0 w [.blk _ [_, _, _, _, _]] := hS
  refine zlv xas ?_
  refine zln <| ztn <| zsq ?_
  refine zdst [0] [0] 7 mx_ hS ?_; clear hS; intro w hS
  refine zdv 0 (fun _ => (xfb 3 fd_28_3)) ?_
  refine zdla 1 (fun w hS => (xlb 0 pl_22 hS)) ?_
  refine zdv 2 (fun _ => (xln sl_22 hT.F.slh)) ?_
  refine zdv 3 (fun _ => (xfb 2 fd_28_2)) ?_
  refine zdla 4 (fun w hS => (xlb 0 pl_22 hS)) ?_
  refine zdv 5 (fun _ => (xln sl_22 hT.B.slh)) ?_
  refine zda 6 (xal (cs := [_]) el_3 hS) ?_; rintro _ w ⟨g2, rfl, hS⟩
  replace hS : Sat w0 w [.blk _ [_, _, _, _, _], .blk _ [_]] := hS
  refine ⟨⟨fun _ => hS.pk [0], hS.pk [0]⟩, ?_⟩
  refine zde 7 (xsb 1 pl_3 hS) ?_; clear hS; rintro w hS
  replace hS : Sat w0 w [.blk _ [_, _, _, _, _], .blk _ [_]] := hS
  refine ⟨⟨fun h => absurd h (by decide), hS.pk [0]⟩, ?_⟩
  refine zdv 8 (fun _ => xas) ?_
  refine zdd <| ztn <| zsq <| zsq <| zrg ?_
  refine zlv (xlb 1 pl_3 hS) ?_
  refine zlv xlss ?_
  refine zlv xmv ?_
  refine zlb 16 ?_ ?_ <;> intro hc
  ·
   iterate 2 refine zlo ?_
   refine zlv xpt ?_
   refine zlv xmv ?_
   iterate 2 refine zlo ?_
   refine zlv xpt ?_
   refine zlv xmv ?_
   iterate 4 refine zlo ?_
   refine zlv xpt ?_
   refine zlv xmv ?_
   iterate 3 refine zlo ?_
   refine zlv xpt ?_
   refine zlv xmv ?_
   iterate 3 refine zlo ?_
   refine zlv xpt ?_
   refine zlv xmv ?_
   iterate 6 refine zlo ?_
   refine zlv xpt ?_
   refine zln <| ztn <| zct <| zsq <| zrg ?_
   refine zlv xas ?_
   refine zln <| ztn <| zrt <| ztr <| zf1 ⟨_, rfl, ?_⟩
   exact ⟨false_B (by intro hp; have b1 := hp.n1; have b2 := hp.n2; have b3 := hp.m2; have b4 := hp.v; have b5 := hp.d1; have b6 := hp.d2; have b7 := hp.c; first | omega | (have hq1 := (perm_sorted (by omega) hsosgq2).2 (hp.perm.congr fun k k0 k1 => (catN2 t.nf t.nb t.F t.B k0).symm) i (by omega) (by omega); omega)), hS.nl⟩
  ·
   refine zlv (xlb 1 pl_3 hS) ?_
   refine zlv xgtr ?_
   refine zlv xpf ?_
   refine zlv xmv ?_
   refine zlb 20 ?_ ?_ <;> intro hc
   ·
    iterate 2 refine zlo ?_
    refine zlv xpt ?_
    refine zlv xmv ?_
    iterate 4 refine zlo ?_
    refine zlv xpt ?_
    refine zlv xmv ?_
    iterate 3 refine zlo ?_
    refine zlv xpt ?_
    refine zlv xmv ?_
    iterate 3 refine zlo ?_
    refine zlv xpt ?_
    refine zlv xmv ?_
    iterate 6 refine zlo ?_
    refine zlv xpt ?_
    refine zln <| ztn <| zct <| zsq <| zrg ?_
    refine zlv xas ?_
    refine zln <| ztn <| zrt <| ztr <| zf1 ⟨_, rfl, ?_⟩
    exact ⟨false_B (by intro hp; have b1 := hp.n1; have b2 := hp.n2; have b3 := hp.m2; have b4 := hp.v; have b5 := hp.d1; have b6 := hp.d2; have b7 := hp.c; first | omega | (have hq1 := (perm_sorted (by omega) hsosgq2).2 (hp.perm.congr fun k k0 k1 => (catN2 t.nf t.nb t.F t.B k0).symm) i (by omega) (by omega); omega)), hS.nl⟩
   ·
    refine zlv xmv ?_
    refine zlv xgtr ?_
    refine zlv xpf ?_
    refine zlv xmv ?_
    refine zlb 24 ?_ ?_ <;> intro hc
    ·
     iterate 4 refine zlo ?_
     refine zlv xpt ?_
     refine zlv xmv ?_
     iterate 3 refine zlo ?_
     refine zlv xpt ?_
     refine zlv xmv ?_
     iterate 3 refine zlo ?_
     refine zlv xpt ?_
     refine zlv xmv ?_
     iterate 6 refine zlo ?_
     refine zlv xpt ?_
     refine zln <| ztn <| zct <| zsq <| zrg ?_
     refine zlv xas ?_
     refine zln <| ztn <| zrt <| ztr <| zf1 ⟨_, rfl, ?_⟩
     exact ⟨false_B (by intro hp; have b1 := hp.n1; have b2 := hp.n2; have b3 := hp.m2; have b4 := hp.v; have b5 := hp.d1; have b6 := hp.d2; have b7 := hp.c; first | omega | (have hq1 := (perm_sorted (by omega) hsosgq2).2 (hp.perm.congr fun k k0 k1 => (catN2 t.nf t.nb t.F t.B k0).symm) i (by omega) (by omega); omega)), hS.nl⟩
    ·
     refine zlv (xfb 0 fd_28_0) ?_
     refine zlv (xlb 0 pl_3 hS) ?_
     refine zlv (xlb 1 pl_3 hS) ?_
     refine zlv xneq ?_
     refine zlv xpf ?_
     refine zlv xmv ?_
     refine zlb 30 ?_ ?_ <;> intro hc
     ·
      iterate 3 refine zlo ?_
      refine zlv xpt ?_
      refine zlv xmv ?_
      iterate 3 refine zlo ?_
      refine zlv xpt ?_
      refine zlv xmv ?_
      iterate 6 refine zlo ?_
      refine zlv xpt ?_
      refine zln <| ztn <| zct <| zsq <| zrg ?_
      refine zlv xas ?_
      refine zln <| ztn <| zrt <| ztr <| zf1 ⟨_, rfl, ?_⟩
      exact ⟨false_B (by intro hp; have b1 := hp.n1; have b2 := hp.n2; have b3 := hp.m2; have b4 := hp.v; have b5 := hp.d1; have b6 := hp.d2; have b7 := hp.c; first | omega | (have hq1 := (perm_sorted (by omega) hsosgq2).2 (hp.perm.congr fun k k0 k1 => (catN2 t.nf t.nb t.F t.B k0).symm) i (by omega) (by omega); omega)), hS.nl⟩
     ·
      refine zlv (xfb 1 fd_28_1) ?_
      refine zlv (xlb 0 pl_3 hS) ?_
      refine zlv xlss ?_
      refine zlv xpf ?_
      refine zlv xmv ?_
      refine zlb 35 ?_ ?_ <;> intro hc
      ·
       iterate 3 refine zlo ?_
       refine zlv xpt ?_
       refine zlv xmv ?_
       iterate 6 refine zlo ?_
       refine zlv xpt ?_
       refine zln <| ztn <| zct <| zsq <| zrg ?_
       refine zlv xas ?_
       refine zln <| ztn <| zrt <| ztr <| zf1 ⟨_, rfl, ?_⟩
       exact ⟨false_B (by intro hp; have b1 := hp.n1; have b2 := hp.n2; have b3 := hp.m2; have b4 := hp.v; have b5 := hp.d1; have b6 := hp.d2; have b7 := hp.c; first | omega | (have hq1 := (perm_sorted (by omega) hsosgq2).2 (hp.perm.congr fun k k0 k1 => (catN2 t.nf t.nb t.F t.B k0).symm) i (by omega) (by omega); omega)), hS.nl⟩
      ·
       refine zlv (xfb 1 fd_28_1) ?_
       refine zlv (xlb 0 pl_3 hS) ?_
       refine zlv xgtr ?_
       refine zlv xpf ?_
       refine zlv xmv ?_
       refine zlb 40 ?_ ?_ <;> intro hc
       ·
        iterate 6 refine zlo ?_
        refine zlv xpt ?_
        refine zln <| ztn <| zct <| zsq <| zrg ?_
        refine zlv xas ?_
        refine zln <| ztn <| zrt <| ztr <| zf1 ⟨_, rfl, ?_⟩
        exact ⟨false_B (by intro hp; have b1 := hp.n1; have b2 := hp.n2; have b3 := hp.m2; have b4 := hp.v; have b5 := hp.d1; have b6 := hp.d2; have b7 := hp.c; first | omega | (have hq1 := (perm_sorted (by omega) hsosgq2).2 (hp.perm.congr fun k k0 k1 => (catN2 t.nf t.nb t.F t.B k0).symm) i (by omega) (by omega); omega)), hS.nl⟩
       ·
        refine zlv (xfb 4 fd_28_4) ?_
        refine zlv (xlb 0 pl_23 hS) ?_
        refine zlv (xln sl_23 hT.C.row.slh) ?_
        refine zlv xmv ?_
        refine zlv (xadd (r := t.nb + 1)) ?_
        refine zlv xneq ?_
        refine zlv xpf ?_
        refine zln <| ztn ?_
        refine zcif ?_ ?_ <;> intro hc
        ·
         refine zsq <| zrg ?_
         refine zlv xas ?_
         refine zln <| ztn <| zrt <| ztr <| zf1 ⟨_, rfl, ?_⟩
         exact ⟨false_B (by intro hp; have b1 := hp.n1; have b2 := hp.n2; have b3 := hp.m2; have b4 := hp.v; have b5 := hp.d1; have b6 := hp.d2; have b7 := hp.c; first | omega | (have hq1 := (perm_sorted (by omega) hsosgq2).2 (hp.perm.congr fun k k0 k1 => (catN2 t.nf t.nb t.F t.B k0).symm) i (by omega) (by omega); omega)), hS.nl⟩
        ·
         refine zsk <| ztn <| zsq <| zrg ?_
         refine zlv (xfb 3 fd_28_3) ?_
         refine zlv (xlb 0 pl_22 hS) ?_
         refine zlv (xfb 2 fd_28_2) ?_
         refine zlv (xlb 0 pl_22 hS) ?_
         refine zla (xli (n := 2) (len := 2) (pv := [(0, vF), (1, vB)]) (cs := [vF, vB]) (c := (pair2 vF vB)) sl_23 el_22 hS (hf := by obtain ⟨_, _, _, _, rfl, _⟩ := hT.F.slh; obtain ⟨_, _, _, _, rfl, _⟩ := hT.B.slh; kernel_rfl)) ?_; rintro v1 w ⟨hS, hv1⟩
         replace hS : Sat w0 w [.blk _ [_, _, _, _, _], .blk _ [_], _] := hS
         have hna := nat2 (w := w) (a := vF) (b := vB) (n := t.nf) (m := t.nb) (f := t.F) (g := t.B) (hS.rowN 2 rfl) (hT.F.below hS.below) (hT.B.below hS.below)
         have htt : ∀ k : Int, 0 ≤ k → k ≤ 2 → tot (pair2 t.nf t.nb) k.toNat ≤ 100000 := fun k k0 k1 => by
           have : k = 0 ∨ k = 1 ∨ k = 2 := by omega
           rcases this with rfl | rfl | rfl
           · simp [tot]
           · simp [tot, pair2]; omega
           · have e2 := tot2 t.nf t.nb; rw [show (2 : Int).toNat = 2 from rfl, e2]; omega
         refine zlc (xc0 cl_100) (c_concat w hna htt) ?_; rintro vq1 w ⟨_, rfl, hslq1, hS'⟩
         rw [show (2 : Int).toNat = 2 from rfl, tot2] at hslq1 hS'
         replace hS : Sat w0 w [.blk g1 [.int .i64 t.vars, .int .i64 t.den, vB, vF, vC], .blk g2 [.int .i64 t.nf], .own v1 1 22 2 (pair2 vF vB), .own vq1 1 3 (t.nf + t.nb) (ints (catN (pair2 t.nf t.nb) (pair2 t.F t.B) 2))] := hS.comp hS'
         clear hS'
         refine zlc (xc0 cl_99) (c_values (n := (t.nf + t.nb)) w hslq1) ?_; rintro _ w ⟨gv1, rfl, hS'⟩
         replace hS : Sat w0 w [.blk g1 [.int .i64 t.vars, .int .i64 t.den, vB, vF, vC], .blk g2 [.int .i64 t.nf], .own v1 1 22 2 (pair2 vF vB), .own vq1 1 3 (t.nf + t.nb) (ints (catN (pair2 t.nf t.nb) (pair2 t.F t.B) 2)), .blk gv1 [vq1]] := hS.comp hS'; clear hS'
         refine zlc (xc0 cl_98) (c_sorted (n := (t.nf + t.nb)) (f := (catN (pair2 t.nf t.nb) (pair2 t.F t.B) 2)) w (hS.cellN 4 rfl rfl) (hS.holds _ (List.mem_of_getElem? (i := 3) rfl)) (by omega)) ?_; rintro vq2 w ⟨_, sgq2, rfl, hslq2, hsosgq2, hS'⟩
         replace hS : Sat w0 w [.blk g1 [.int .i64 t.vars, .int .i64 t.den, vB, vF, vC], .blk g2 [.int .i64 t.nf], .own v1 1 22 2 (pair2 vF vB), .own vq1 1 3 (t.nf + t.nb) (ints (catN (pair2 t.nf t.nb) (pair2 t.F t.B) 2)), .blk gv1 [vq1], .own vq2 1 3 (t.nf + t.nb) (ints sgq2)] := hS.comp hS'; clear hS'
         refine zlv xas ?_
         refine zln <| ztn <| zsq <| zsq <| zrg ?_
         refine zlv xmv ?_
         refine zlv (xln sl_22 hslq2) ?_
         refine zlv xmv ?_
         refine zln <| ztn <| zbk <| zlp (fun mm M w => ∃ (i : Int), mm = ((t.nf + t.nb - i).toNat) ∧ (0 ≤ i) ∧ (i ≤ t.nf + t.nb) ∧ (∀ k, 0 ≤ k → k < i → sgq2 k = k) ∧ M = [(1, .pointer (some ⟨g1, 0, none⟩)), (3, .pointer (some ⟨g2, 0, none⟩)), (56, vq2), (57, .int .i64 (t.nf + t.nb)), (58, .int .i64 i)] ∧ Sat w0 w [.blk g1 [.int .i64 t.vars, .int .i64 t.den, vB, vF, vC], .blk g2 [.int .i64 t.nf], .own v1 1 22 2 (pair2 vF vB), .own vq1 1 3 (t.nf + t.nb) (ints (catN (pair2 t.nf t.nb) (pair2 t.F t.B) 2)), .blk gv1 [vq1], .own vq2 1 3 (t.nf + t.nb) (ints sgq2)]) ⟨0, rfl, (by omega), (by omega), ?_, rfl, hS⟩ ?_
         ·
          intro k h0 h1; omega
         ·
          clear hS w
          rintro mm M w ⟨i, rfl, h0, h1, hall, rfl, hS⟩
          refine zsq <| zrg ?_
          refine zlv xlss ?_
          refine zln <| ztn <| zsq ?_
          refine zcif ?_ ?_ <;> intro hc
          ·
           refine zsk <| ztn <| zsq <| zbk <| zsq <| zrg ?_
           refine zlv xmv ?_
           refine zlv (xix (kk := i) sl_22 hslq2) ?_
           refine zlv (xlr (u := .int .i64 (sgq2 i)) pl_3 (hS.rowN 5 rfl)) ?_
           iterate 2 refine zlv xas ?_
           refine zln <| ztn <| zsq <| zrg ?_
           iterate 2 refine zlv xmv ?_
           refine zlv xneq ?_
           refine zln <| ztn ?_
           refine zcif ?_ ?_ <;> intro hc
           ·
            refine zsq <| zrg ?_
            refine zlv xas ?_
            refine zln <| ztn <| zrt <| zbr <| ztr <| ztr <| zbr <| ztr <| zf1 ⟨_, rfl, ?_⟩
            exact ⟨false_B (by intro hp; have b1 := hp.n1; have b2 := hp.n2; have b3 := hp.m2; have b4 := hp.v; have b5 := hp.d1; have b6 := hp.d2; have b7 := hp.c; first | omega | (have hq1 := (perm_sorted (by omega) hsosgq2).2 (hp.perm.congr fun k k0 k1 => (catN2 t.nf t.nb t.F t.B k0).symm) i (by omega) (by omega); omega)), hS.nl⟩
           ·
            refine zsk <| zbn <| ztn <| zrg ?_
            refine zlv (xadd (r := i + 1)) ?_
            refine zlv xmv ?_
            refine zln <| zlq ⟨i + 1, rfl, (by omega), (by omega), ?_, rfl, hS⟩
            ·
             intro k h0' h1'; rcases Int.lt_or_eq_of_le (show k ≤ i by omega) with hk | hk; exact hall k h0' hk; rw [hk]; omega
          ·
           refine zxt <| ztx <| ztx <| zbh <| ztn <| zsq <| zrg ?_
           refine zlv (xfb 4 fd_28_4) ?_
           refine zlv (xlb 0 pl_23 hS) ?_
           refine zlv xmf ?_
           refine zlc (xc0 cl_78) (c_comp (n := t.nc) (q := t.nf) (vv := vv) (ln := t.ln) (f := t.C) w (hT.C.below hS.below) (hS.cellN 1 rfl rfl) (by omega)) ?_; rintro _ w ⟨rfl, hS'⟩
           replace hS := hS.cmp hS'; clear hS'
           refine zlv xnot ?_
           refine zlv xas ?_
           refine zln <| ztn <| zrt <| zf1 ⟨_, rfl, ?_⟩
           refine ⟨B_congr ⟨fun hx => ?_, fun hp hx => ?_⟩, hS.nl⟩
           · refine ⟨by omega, by omega, by omega, by omega, by omega, by omega, by omega, ((perm_sorted (by omega) hsosgq2).1 fun k k0 k1 => hall k k0 (by omega)).congr fun k k0 k1 => catN2 t.nf t.nb t.F t.B k0, fun k k0 k1 => ?_⟩
             have hy := Classical.not_not.1 fun hh => hx ⟨k, k0, k1, hh⟩
             exact ⟨hy.1, hy.2⟩
           · obtain ⟨k, k0, k1, hh⟩ := hx
             have hr := hp.rows k k0 k1
             exact hh ⟨hr.1, hr.2⟩

end Go.Proofs.Ytelfplepnodbgaa
