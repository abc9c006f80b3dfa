/- The walk of proper, of tableau. -/
import Derived.Test.YtkcmbndnhcofpaaGv
import Derived.Test.YtkcmbndnhcofpaaW2
namespace Go.Proofs.Ytkcmbndnhcofpaa
open Go Go.RowKit Go.Proofs.Gw
set_option linter.unusedVariables false

theorem cl_19 : calledT Try.prog 19 = true := by kernel_rfl
theorem cl_23 : calledT Try.prog 23 = true := by kernel_rfl
theorem cl_25 : calledT Try.prog 25 = true := by kernel_rfl
theorem cl_26 : calledT Try.prog 26 = true := by kernel_rfl
theorem cl_27 : calledT Try.prog 27 = true := by kernel_rfl
theorem cl_28 : calledT Try.prog 28 = true := by kernel_rfl
theorem cl_29 : calledT Try.prog 29 = true := by kernel_rfl
theorem cl_33 : calledT Try.prog 33 = true := by kernel_rfl
theorem el_22 : elemT Try.prog 22 = some (.slice none 0 0, 1, 24) := by kernel_rfl
theorem fd_30_0 : fieldT Try.prog 30 0 = some 0 := by kernel_rfl
theorem fd_30_1 : fieldT Try.prog 30 1 = some 1 := by kernel_rfl
theorem fd_30_2 : fieldT Try.prog 30 2 = some 2 := by kernel_rfl
theorem fd_30_3 : fieldT Try.prog 30 3 = some 3 := by kernel_rfl
theorem fd_30_4 : fieldT Try.prog 30 4 = some 4 := by kernel_rfl
theorem mx_ : Try.prog.follows .mixedOrders = true := by kernel_rfl
theorem pl_23 : plainT Try.prog 23 = true := by kernel_rfl
theorem c_wr1p {v : Value} {n q : Int} {f : Int → Int} {a1 : Addr} (w0 : World) (hR : Row w0 v 1 n (ints f)) (hp1 : w0.cell? a1 = some (.int .i64 q)) (hq : 0 ≤ q ∧ q ≤ 100) :
    Calls Try.prog 29 [v, .pointer (some a1)].toArray w0 fun e w => ∃ v, e = .returned v ∧ v = B (¬ (n = q + 1 ∧ Btw f n 1073741824)) ∧ Sat w0 w [] := by
  have hn1 := hR.slh.n1
  refine zenG Try.func29 Try.ntmps29 fun w hS => ?_
  refine zsr ?_
  refine zlv xas ?_
  refine zlz ?_
  refine zlv xmv ?_
  refine zlv (xln sl_22 hR.slh) ?_
  refine zlv (xlf pl_3 hp1 hS) ?_
  refine zlv (xadd (r := q + 1)) ?_
  refine zs2 ?_
  refine zlb 9 ?_ ?_ <;> intro hc
  ·
   iterate 3 refine zlo ?_
   refine zs2 ?_
   refine zlt <| zrt <| zf1 ⟨_, rfl, ?_⟩
   exact ⟨true_B (by omega), hS⟩
  refine zlv xmv ?_
  refine zlc (xc0 cl_19) (c_between (n := n) (m := 1073741824) (f := f) w (hR.below hS.below) (by omega)) ?_; rintro _ w ⟨rfl, hS'⟩
  replace hS := hS.cmp hS'; clear hS'
  refine zs3 ?_
  refine zlt <| zrt <| zf1 ⟨_, rfl, ?_⟩
  exact ⟨B_congr (by exact ⟨fun h hh => h hh.2, fun h hh => h ⟨by omega, hh⟩⟩), hS⟩

theorem c_ixmp {v : Value} {n q : Int} {vv : Int → Value} {ln : Int → Int} {f : Int → Int → Int} {a1 : Addr} (w0 : World) (hM : MAt w0 v n vv ln f) (hp1 : w0.cell? a1 = some (.int .i64 q)) (hq : 0 ≤ q ∧ q ≤ 100) :
    Calls Try.prog 33 [v, .func (.func 29) #[] #[.pointer (some a1)]].toArray w0 fun e w => ∃ v, e = .returned v ∧ ∃ r : Int, v = .int .i64 r ∧ ((r = -1 ∧ ∀ k, 0 ≤ k → k < n → ¬ (¬ ((ln k) = q + 1 ∧ Btw (f k) (ln k) 1073741824))) ∨ (0 ≤ r ∧ r < n ∧ (¬ ((ln r) = q + 1 ∧ Btw (f r) (ln r) 1073741824)))) ∧ Sat w0 w [] := by
  have hn := hM.row.slh.n0; have hn1 := hM.row.slh.n1
  refine zenG Try.func33 Try.ntmps33 fun w hS => ?_
  refine zsr ?_
  refine zlv xas ?_
  refine zlt <| zsq <| zsr ?_
  refine zlv xmv ?_
  refine zlv (xln sl_23 hM.row.slh) ?_
  refine zlv xmv ?_
  refine zlt <| zbk <| zlp (fun mm M w => ∃ (i : Int), mm = ((n - i).toNat) ∧ (0 ≤ i) ∧ (i ≤ n) ∧ (∀ k, 0 ≤ k → k < i → ¬ (¬ ((ln k) = q + 1 ∧ Btw (f k) (ln k) 1073741824))) ∧ M = [(0, v), (1, .func (.func 29) #[] #[.pointer (some a1)]), (7, .int .i64 n), (8, .int .i64 i)] ∧ Sat w0 w []) ⟨0, rfl, (by omega), (by omega), ?_, rfl, hS⟩ ?_
  ·
   intro k h0 h1; omega
  clear hS w
  rintro mm M w ⟨i, rfl, h0, h1, hall, rfl, hS⟩
  refine zsr ?_
  refine zlv xlss ?_
  refine zlt <| zsq ?_
  refine zcif ?_ ?_ <;> intro hc
  ·
   refine zsk <| ztn <| zsq <| zbk <| zsr ?_
   refine zs2 ?_
   refine zlz ?_
   refine zs3 ?_
   refine zlv (xix (kk := i) sl_23 hM.row.slh) ?_
   refine zlv (xlr (u := (vv i)) pl_22 (hM.row.below hS.below)) ?_
   refine zlc (xcc (vs := [_]) cl_29) (c_wr1p (n := (ln i)) (q := q) (f := (f i)) w ((hM.p i (by omega) (by omega)).below hS.below) (hS.ref hp1) hq) ?_; rintro _ w ⟨rfl, hS'⟩
   replace hS := hS.cmp hS'; clear hS'
   refine zlt ?_
   refine zcif ?_ ?_ <;> intro hc
   ·
    refine zsr ?_
    refine zs2 ?_
    refine zlt <| zrt <| zbr <| ztr <| ztr <| zbr <| ztr <| zf1 ⟨_, rfl, ?_⟩
    exact ⟨i, rfl, .inr ⟨by omega, by omega, ‹¬ ((ln i) = q + 1 ∧ Btw (f i) (ln i) 1073741824)›⟩, hS⟩
   refine zsk <| zbn <| ztn <| zrg ?_
   refine zlv (xadd (r := i + 1)) ?_
   refine zlv xmv ?_
   refine zln <| zlq ⟨i + 1, rfl, (by omega), (by omega), ?_, rfl, hS⟩
   ·
    intro k h0' h1'; rcases Int.lt_or_eq_of_le (show k ≤ i by omega) with hk | hk; exact hall k h0' hk; rw [hk]; assumption
  refine zxt <| ztx <| ztx <| zbh <| ztn <| zsr ?_
  refine zlv xas ?_
  refine zlt <| zrt <| zf1 ⟨_, rfl, ?_⟩
  exact ⟨-1, rfl, .inl ⟨rfl, fun k h0 h1 => hall k h0 (by omega)⟩, hS⟩

theorem c_comp {v : Value} {n q : Int} {vv : Int → Value} {ln : Int → Int} {f : Int → Int → Int} {a1 : Addr} (w0 : World) (hM : MAt w0 v n vv ln f) (hp1 : w0.cell? a1 = some (.int .i64 q)) (hq : 0 ≤ q ∧ q ≤ 100) :
    Calls Try.prog 25 [v, .func (.func 29) #[] #[.pointer (some a1)]].toArray w0 fun e w => ∃ v, e = .returned v ∧ v = B (∃ k, 0 ≤ k ∧ k < n ∧ (¬ ((ln k) = q + 1 ∧ Btw (f k) (ln k) 1073741824))) ∧ Sat w0 w [] := by
  refine zenG Try.func25 Try.ntmps25 fun w hS => ?_
  refine zsr ?_
  refine zlv xas ?_
  refine zlz ?_
  refine zs2 ?_
  refine zlc (xc0 cl_33) (c_ixmp w (hM.below hS.below) (hS.ref hp1) hq) ?_; rintro _ w ⟨r1, rfl, hr1, hS'⟩
  replace hS := hS.cmp hS'; clear hS'
  refine zs2 ?_
  refine zlt <| zrt <| zf1 ⟨_, rfl, ?_⟩
  exact ⟨B_congr (by
   rcases hr1 with ⟨h1, h2⟩ | ⟨h1, h2, h3⟩
   · exact ⟨fun h => by omega, fun ⟨k, h4, h5, h6⟩ => absurd h6 (h2 k h4 h5)⟩
   · exact ⟨fun _ => ⟨_, h1, h2, h3⟩, fun _ => h1⟩), hS⟩

theorem c_wr1v {v : Value} {n q : Int} {f : Int → Int} {a1 : Addr} (w0 : World) (hR : Row w0 v 1 n (ints f)) (hp1 : w0.cell? a1 = some (.int .i64 q)) (hq : 0 ≤ q ∧ q ≤ 100) :
    Calls Try.prog 23 [v, .pointer (some a1)].toArray w0 fun e w => ∃ v, e = .returned v ∧ v = B (¬ (n = q ∧ Btw f n 1000000)) ∧ Sat w0 w [] := by
  have hn1 := hR.slh.n1
  refine zenG Try.func23 Try.ntmps23 fun w hS => ?_
  refine zsr ?_
  refine zlv xas ?_
  refine zlz ?_
  refine zlv xmv ?_
  refine zlv (xln sl_22 hR.slh) ?_
  refine zlv (xlf pl_3 hp1 hS) ?_
  refine zs2 ?_
  refine zlb 8 ?_ ?_ <;> intro hc
  ·
   iterate 3 refine zlo ?_
   refine zs2 ?_
   refine zlt <| zrt <| zf1 ⟨_, rfl, ?_⟩
   exact ⟨true_B (by omega), hS⟩
  refine zlv xmv ?_
  refine zlc (xc0 cl_19) (c_between (n := n) (m := 1000000) (f := f) w (hR.below hS.below) (by omega)) ?_; rintro _ w ⟨rfl, hS'⟩
  replace hS := hS.cmp hS'; clear hS'
  refine zs3 ?_
  refine zlt <| zrt <| zf1 ⟨_, rfl, ?_⟩
  exact ⟨B_congr (by exact ⟨fun h hh => h hh.2, fun h hh => h ⟨by omega, hh⟩⟩), hS⟩

theorem c_ixmv {v : Value} {n q : Int} {vv : Int → Value} {ln : Int → Int} {f : Int → Int → Int} {a1 : Addr} (w0 : World) (hM : MAt w0 v n vv ln f) (hp1 : w0.cell? a1 = some (.int .i64 q)) (hq : 0 ≤ q ∧ q ≤ 100) :
    Calls Try.prog 33 [v, .func (.func 23) #[] #[.pointer (some a1)]].toArray w0 fun e w => ∃ v, e = .returned v ∧ ∃ r : Int, v = .int .i64 r ∧ ((r = -1 ∧ ∀ k, 0 ≤ k → k < n → ¬ (¬ ((ln k) = q ∧ Btw (f k) (ln k) 1000000))) ∨ (0 ≤ r ∧ r < n ∧ (¬ ((ln r) = q ∧ Btw (f r) (ln r) 1000000)))) ∧ Sat w0 w [] := by
  have hn := hM.row.slh.n0; have hn1 := hM.row.slh.n1
  refine zenG Try.func33 Try.ntmps33 fun w hS => ?_
  refine zsr ?_
  refine zlv xas ?_
  refine zlt <| zsq <| zsr ?_
  refine zlv xmv ?_
  refine zlv (xln sl_23 hM.row.slh) ?_
  refine zlv xmv ?_
  refine zlt <| zbk <| zlp (fun mm M w => ∃ (i : Int), mm = ((n - i).toNat) ∧ (0 ≤ i) ∧ (i ≤ n) ∧ (∀ k, 0 ≤ k → k < i → ¬ (¬ ((ln k) = q ∧ Btw (f k) (ln k) 1000000))) ∧ M = [(0, v), (1, .func (.func 23) #[] #[.pointer (some a1)]), (7, .int .i64 n), (8, .int .i64 i)] ∧ Sat w0 w []) ⟨0, rfl, (by omega), (by omega), ?_, rfl, hS⟩ ?_
  ·
   intro k h0 h1; omega
  clear hS w
  rintro mm M w ⟨i, rfl, h0, h1, hall, rfl, hS⟩
  refine zsr ?_
  refine zlv xlss ?_
  refine zlt <| zsq ?_
  refine zcif ?_ ?_ <;> intro hc
  ·
   refine zsk <| ztn <| zsq <| zbk <| zsr ?_
   refine zs2 ?_
   refine zlz ?_
   refine zs3 ?_
   refine zlv (xix (kk := i) sl_23 hM.row.slh) ?_
   refine zlv (xlr (u := (vv i)) pl_22 (hM.row.below hS.below)) ?_
   refine zlc (xcc (vs := [_]) cl_23) (c_wr1v (n := (ln i)) (q := q) (f := (f i)) w ((hM.p i (by omega) (by omega)).below hS.below) (hS.ref hp1) hq) ?_; rintro _ w ⟨rfl, hS'⟩
   replace hS := hS.cmp hS'; clear hS'
   refine zlt ?_
   refine zcif ?_ ?_ <;> intro hc
   ·
    refine zsr ?_
    refine zs2 ?_
    refine zlt <| zrt <| zbr <| ztr <| ztr <| zbr <| ztr <| zf1 ⟨_, rfl, ?_⟩
    exact ⟨i, rfl, .inr ⟨by omega, by omega, ‹¬ ((ln i) = q ∧ Btw (f i) (ln i) 1000000)›⟩, hS⟩
   refine zsk <| zbn <| ztn <| zrg ?_
   refine zlv (xadd (r := i + 1)) ?_
   refine zlv xmv ?_
   refine zln <| zlq ⟨i + 1, rfl, (by omega), (by omega), ?_, rfl, hS⟩
   ·
    intro k h0' h1'; rcases Int.lt_or_eq_of_le (show k ≤ i by omega) with hk | hk; exact hall k h0' hk; rw [hk]; assumption
  refine zxt <| ztx <| ztx <| zbh <| ztn <| zsr ?_
  refine zlv xas ?_
  refine zlt <| zrt <| zf1 ⟨_, rfl, ?_⟩
  exact ⟨-1, rfl, .inl ⟨rfl, fun k h0 h1 => hall k h0 (by omega)⟩, hS⟩

theorem c_comv {v : Value} {n q : Int} {vv : Int → Value} {ln : Int → Int} {f : Int → Int → Int} {a1 : Addr} (w0 : World) (hM : MAt w0 v n vv ln f) (hp1 : w0.cell? a1 = some (.int .i64 q)) (hq : 0 ≤ q ∧ q ≤ 100) :
    Calls Try.prog 25 [v, .func (.func 23) #[] #[.pointer (some a1)]].toArray w0 fun e w => ∃ v, e = .returned v ∧ v = B (∃ k, 0 ≤ k ∧ k < n ∧ (¬ ((ln k) = q ∧ Btw (f k) (ln k) 1000000))) ∧ Sat w0 w [] := by
  refine zenG Try.func25 Try.ntmps25 fun w hS => ?_
  refine zsr ?_
  refine zlv xas ?_
  refine zlz ?_
  refine zs2 ?_
  refine zlc (xc0 cl_33) (c_ixmv w (hM.below hS.below) (hS.ref hp1) hq) ?_; rintro _ w ⟨r1, rfl, hr1, hS'⟩
  replace hS := hS.cmp hS'; clear hS'
  refine zs2 ?_
  refine zlt <| zrt <| zf1 ⟨_, rfl, ?_⟩
  exact ⟨B_congr (by
   rcases hr1 with ⟨h1, h2⟩ | ⟨h1, h2, h3⟩
   · exact ⟨fun h => by omega, fun ⟨k, h4, h5, h6⟩ => absurd h6 (h2 k h4 h5)⟩
   · exact ⟨fun _ => ⟨_, h1, h2, h3⟩, fun _ => h1⟩), hS⟩

set_option maxRecDepth 20000 in
theorem c_proper {vB vF vC : Value} {vv : Int → Value} {t : Tb} (w0 : World) (hT : TAt w0 vB vF vC vv t) :
    Calls Try.prog 15 [.agg #[.int .i64 t.vars, .int .i64 t.den, vB, vF, vC]].toArray w0 fun e w => ∃ v, e = .returned v ∧ v = B (TPrp t) ∧ Sat w0 w [] := by
  have hn := hT.F.slh.n0; have hn1 := hT.F.slh.n1; have hb := hT.B.slh.n0; have hb1 := hT.B.slh.n1; have hc0 := hT.C.row.slh.n0; have hc1 := hT.C.row.slh.n1
  refine zenG Try.func15 Try.ntmps15 fun w hS => ?_
  refine zsr ?_
  refine zla (xbx (cs := [_, _, _, _, _]) hS) ?_; rintro _ w ⟨g1, rfl, hS⟩
  replace hS := hS.n1
  refine zlv xas ?_
  refine zlt <| zsq ?_
  refine zdst [0] [0] 7 mx_ hS ?_; clear hS; intro w hS
  refine zdv 0 (fun _ => (xfb 3 fd_30_3)) ?_
  refine zdla 1 (fun w hS => (xlb 0 pl_22 hS)) ?_
  refine zdv 2 (fun _ => (xln sl_22 hT.F.slh)) ?_
  refine zdv 3 (fun _ => (xfb 2 fd_30_2)) ?_
  refine zdla 4 (fun w hS => (xlb 0 pl_22 hS)) ?_
  refine zdv 5 (fun _ => (xln sl_22 hT.B.slh)) ?_
  refine zda 6 (xal (cs := [_]) el_3 hS) ?_; rintro _ w ⟨g2, rfl, hS⟩
  replace hS := hS.n2
  refine ⟨⟨fun _ => hS.pk [0], hS.pk [0]⟩, ?_⟩
  refine zde 7 (xsb 1 pl_3 hS) ?_; clear hS; rintro w hS
  replace hS := hS.n2
  refine ⟨⟨fun h => absurd h (by decide), hS.pk [0]⟩, ?_⟩
  refine zdv 8 (fun _ => xas) ?_
  refine zdd <| ztn <| zsq <| zsr ?_
  refine zlv (xlb 1 pl_3 hS) ?_
  refine zs2 ?_
  refine zlb 16 ?_ ?_ <;> intro hc
  ·
   iterate 2 refine zlo ?_
   refine zs2 ?_
   iterate 2 refine zlo ?_
   refine zs2 ?_
   iterate 4 refine zlo ?_
   refine zs2 ?_
   iterate 3 refine zlo ?_
   refine zs2 ?_
   iterate 3 refine zlo ?_
   refine zs2 ?_
   iterate 6 refine zlo ?_
   refine zlv xpt ?_
   refine zlt <| zct <| zsr ?_
   refine zlv xas ?_
   refine zlt <| zrt <| ztr <| zf1 ⟨_, rfl, ?_⟩
   exact ⟨false_B (by intro hp; have b1 := hp.n1; have b2 := hp.n2; have b3 := hp.m2; have b4 := hp.v; have b5 := hp.d1; have b6 := hp.d2; have b7 := hp.c; first | omega | (have hq1 := (perm_sorted (by omega) hsosgq2).2 (hp.perm.congr fun k k0 k1 => (catN2 t.nf t.nb t.F t.B k0).symm) i (by omega) (by omega); omega)), hS.nl⟩
  refine zlv (xlb 1 pl_3 hS) ?_
  refine zs3 ?_
  refine zlb 20 ?_ ?_ <;> intro hc
  ·
   iterate 2 refine zlo ?_
   refine zs2 ?_
   iterate 4 refine zlo ?_
   refine zs2 ?_
   iterate 3 refine zlo ?_
   refine zs2 ?_
   iterate 3 refine zlo ?_
   refine zs2 ?_
   iterate 6 refine zlo ?_
   refine zlv xpt ?_
   refine zlt <| zct <| zsr ?_
   refine zlv xas ?_
   refine zlt <| zrt <| ztr <| zf1 ⟨_, rfl, ?_⟩
   exact ⟨false_B (by intro hp; have b1 := hp.n1; have b2 := hp.n2; have b3 := hp.m2; have b4 := hp.v; have b5 := hp.d1; have b6 := hp.d2; have b7 := hp.c; first | omega | (have hq1 := (perm_sorted (by omega) hsosgq2).2 (hp.perm.congr fun k k0 k1 => (catN2 t.nf t.nb t.F t.B k0).symm) i (by omega) (by omega); omega)), hS.nl⟩
  refine zs4 ?_
  refine zlb 24 ?_ ?_ <;> intro hc
  ·
   iterate 4 refine zlo ?_
   refine zs2 ?_
   iterate 3 refine zlo ?_
   refine zs2 ?_
   iterate 3 refine zlo ?_
   refine zs2 ?_
   iterate 6 refine zlo ?_
   refine zlv xpt ?_
   refine zlt <| zct <| zsr ?_
   refine zlv xas ?_
   refine zlt <| zrt <| ztr <| zf1 ⟨_, rfl, ?_⟩
   exact ⟨false_B (by intro hp; have b1 := hp.n1; have b2 := hp.n2; have b3 := hp.m2; have b4 := hp.v; have b5 := hp.d1; have b6 := hp.d2; have b7 := hp.c; first | omega | (have hq1 := (perm_sorted (by omega) hsosgq2).2 (hp.perm.congr fun k k0 k1 => (catN2 t.nf t.nb t.F t.B k0).symm) i (by omega) (by omega); omega)), hS.nl⟩
  refine zlv (xfb 0 fd_30_0) ?_
  refine zlv (xlb 0 pl_3 hS) ?_
  refine zlv (xlb 1 pl_3 hS) ?_
  refine zs3 ?_
  refine zlb 30 ?_ ?_ <;> intro hc
  ·
   iterate 3 refine zlo ?_
   refine zs2 ?_
   iterate 3 refine zlo ?_
   refine zs2 ?_
   iterate 6 refine zlo ?_
   refine zlv xpt ?_
   refine zlt <| zct <| zsr ?_
   refine zlv xas ?_
   refine zlt <| zrt <| ztr <| zf1 ⟨_, rfl, ?_⟩
   exact ⟨false_B (by intro hp; have b1 := hp.n1; have b2 := hp.n2; have b3 := hp.m2; have b4 := hp.v; have b5 := hp.d1; have b6 := hp.d2; have b7 := hp.c; first | omega | (have hq1 := (perm_sorted (by omega) hsosgq2).2 (hp.perm.congr fun k k0 k1 => (catN2 t.nf t.nb t.F t.B k0).symm) i (by omega) (by omega); omega)), hS.nl⟩
  refine zlv (xfb 1 fd_30_1) ?_
  refine zlv (xlb 0 pl_3 hS) ?_
  refine zs3 ?_
  refine zlb 35 ?_ ?_ <;> intro hc
  ·
   iterate 3 refine zlo ?_
   refine zs2 ?_
   iterate 6 refine zlo ?_
   refine zlv xpt ?_
   refine zlt <| zct <| zsr ?_
   refine zlv xas ?_
   refine zlt <| zrt <| ztr <| zf1 ⟨_, rfl, ?_⟩
   exact ⟨false_B (by intro hp; have b1 := hp.n1; have b2 := hp.n2; have b3 := hp.m2; have b4 := hp.v; have b5 := hp.d1; have b6 := hp.d2; have b7 := hp.c; first | omega | (have hq1 := (perm_sorted (by omega) hsosgq2).2 (hp.perm.congr fun k k0 k1 => (catN2 t.nf t.nb t.F t.B k0).symm) i (by omega) (by omega); omega)), hS.nl⟩
  refine zlv (xfb 1 fd_30_1) ?_
  refine zlv (xlb 0 pl_3 hS) ?_
  refine zs3 ?_
  refine zlb 40 ?_ ?_ <;> intro hc
  ·
   iterate 6 refine zlo ?_
   refine zlv xpt ?_
   refine zlt <| zct <| zsr ?_
   refine zlv xas ?_
   refine zlt <| zrt <| ztr <| zf1 ⟨_, rfl, ?_⟩
   exact ⟨false_B (by intro hp; have b1 := hp.n1; have b2 := hp.n2; have b3 := hp.m2; have b4 := hp.v; have b5 := hp.d1; have b6 := hp.d2; have b7 := hp.c; first | omega | (have hq1 := (perm_sorted (by omega) hsosgq2).2 (hp.perm.congr fun k k0 k1 => (catN2 t.nf t.nb t.F t.B k0).symm) i (by omega) (by omega); omega)), hS.nl⟩
  refine zlv (xfb 4 fd_30_4) ?_
  refine zlv (xlb 0 pl_23 hS) ?_
  refine zlv (xln sl_23 hT.C.row.slh) ?_
  refine zlv xmv ?_
  refine zlv (xadd (r := t.nb + 1)) ?_
  refine zs2 ?_
  refine zlt ?_
  refine zcif ?_ ?_ <;> intro hc
  ·
   refine zsr ?_
   refine zlv xas ?_
   refine zlt <| zrt <| ztr <| zf1 ⟨_, rfl, ?_⟩
   exact ⟨false_B (by intro hp; have b1 := hp.n1; have b2 := hp.n2; have b3 := hp.m2; have b4 := hp.v; have b5 := hp.d1; have b6 := hp.d2; have b7 := hp.c; first | omega | (have hq1 := (perm_sorted (by omega) hsosgq2).2 (hp.perm.congr fun k k0 k1 => (catN2 t.nf t.nb t.F t.B k0).symm) i (by omega) (by omega); omega)), hS.nl⟩
  refine zsk <| ztn <| zsr ?_
  refine zlv (xfb 3 fd_30_3) ?_
  refine zlv (xlb 0 pl_22 hS) ?_
  refine zlv (xfb 2 fd_30_2) ?_
  refine zlv (xlb 0 pl_22 hS) ?_
  refine zla (xli (n := 2) (len := 2) (pv := [(0, vF), (1, vB)]) (cs := [vF, vB]) (c := (pair2 vF vB)) sl_23 el_22 hS (hf := by obtain ⟨_, _, _, _, rfl, _⟩ := hT.F.slh; obtain ⟨_, _, _, _, rfl, _⟩ := hT.B.slh; kernel_rfl)) ?_; rintro v1 w ⟨hS, hv1⟩
  replace hS := hS.n3
  have hna := nat2 (w := w) (a := vF) (b := vB) (n := t.nf) (m := t.nb) (f := t.F) (g := t.B) (hS.rowN 2 rfl) (hT.F.below hS.below) (hT.B.below hS.below)
  have htt : ∀ k : Int, 0 ≤ k → k ≤ 2 → tot (pair2 t.nf t.nb) k.toNat ≤ 100000 := fun k k0 k1 => by
    have : k = 0 ∨ k = 1 ∨ k = 2 := by omega
    rcases this with rfl | rfl | rfl
    · simp [tot]
    · simp [tot, pair2]; omega
    · have e2 := tot2 t.nf t.nb; rw [show (2 : Int).toNat = 2 from rfl, e2]; omega
  refine zlc (xc0 cl_28) (c_concat w hna htt) ?_; rintro vq1 w ⟨_, rfl, hslq1, hS'⟩
  rw [show (2 : Int).toNat = 2 from rfl, tot2] at hslq1 hS'
  replace hS : Sat w0 w [.blk g1 [.int .i64 t.vars, .int .i64 t.den, vB, vF, vC], .blk g2 [.int .i64 t.nf], .own v1 1 22 2 (pair2 vF vB), .own vq1 1 3 (t.nf + t.nb) (ints (catN (pair2 t.nf t.nb) (pair2 t.F t.B) 2))] := hS.comp hS'
  clear hS'
  refine zlc (xc0 cl_27) (c_values (n := (t.nf + t.nb)) w hslq1) ?_; rintro _ w ⟨gv1, rfl, hS'⟩
  replace hS : Sat w0 w [.blk g1 [.int .i64 t.vars, .int .i64 t.den, vB, vF, vC], .blk g2 [.int .i64 t.nf], .own v1 1 22 2 (pair2 vF vB), .own vq1 1 3 (t.nf + t.nb) (ints (catN (pair2 t.nf t.nb) (pair2 t.F t.B) 2)), .blk gv1 [vq1]] := hS.comp hS'; clear hS'
  refine zlc (xc0 cl_26) (c_sorted (n := (t.nf + t.nb)) (f := (catN (pair2 t.nf t.nb) (pair2 t.F t.B) 2)) w (hS.cellN 4 rfl rfl) (hS.holds _ (List.mem_of_getElem? (i := 3) rfl)) (by omega)) ?_; rintro vq2 w ⟨_, sgq2, rfl, hslq2, hsosgq2, hS'⟩
  replace hS : Sat w0 w [.blk g1 [.int .i64 t.vars, .int .i64 t.den, vB, vF, vC], .blk g2 [.int .i64 t.nf], .own v1 1 22 2 (pair2 vF vB), .own vq1 1 3 (t.nf + t.nb) (ints (catN (pair2 t.nf t.nb) (pair2 t.F t.B) 2)), .blk gv1 [vq1], .own vq2 1 3 (t.nf + t.nb) (ints sgq2)] := hS.comp hS'; clear hS'
  refine zlv xas ?_
  refine zlt <| zsq <| zsr ?_
  refine zlv xmv ?_
  refine zlv (xln sl_22 hslq2) ?_
  refine zlv xmv ?_
  refine zlt <| zbk <| zlp (fun mm M w => ∃ (i : Int), mm = ((t.nf + t.nb - i).toNat) ∧ (0 ≤ i) ∧ (i ≤ t.nf + t.nb) ∧ (∀ k, 0 ≤ k → k < i → sgq2 k = k) ∧ M = [(1, .pointer (some ⟨g1, 0, none⟩)), (3, .pointer (some ⟨g2, 0, none⟩)), (56, vq2), (57, .int .i64 (t.nf + t.nb)), (58, .int .i64 i)] ∧ Sat w0 w [.blk g1 [.int .i64 t.vars, .int .i64 t.den, vB, vF, vC], .blk g2 [.int .i64 t.nf], .own v1 1 22 2 (pair2 vF vB), .own vq1 1 3 (t.nf + t.nb) (ints (catN (pair2 t.nf t.nb) (pair2 t.F t.B) 2)), .blk gv1 [vq1], .own vq2 1 3 (t.nf + t.nb) (ints sgq2)]) ⟨0, rfl, (by omega), (by omega), ?_, rfl, hS⟩ ?_
  ·
   intro k h0 h1; omega
  clear hS w
  rintro mm M w ⟨i, rfl, h0, h1, hall, rfl, hS⟩
  refine zsr ?_
  refine zlv xlss ?_
  refine zlt <| zsq ?_
  refine zcif ?_ ?_ <;> intro hc
  ·
   refine zsk <| ztn <| zsq <| zbk <| zsr ?_
   refine zlv xmv ?_
   refine zlv (xix (kk := i) sl_22 hslq2) ?_
   refine zlv (xlr (u := .int .i64 (sgq2 i)) pl_3 (hS.rowN 5 rfl)) ?_
   refine zs2 ?_
   refine zlz ?_
   refine zs3 ?_
   refine zlt ?_
   refine zcif ?_ ?_ <;> intro hc
   ·
    refine zsr ?_
    refine zlv xas ?_
    refine zlt <| zrt <| zbr <| ztr <| ztr <| zbr <| ztr <| zf1 ⟨_, rfl, ?_⟩
    exact ⟨false_B (by intro hp; have b1 := hp.n1; have b2 := hp.n2; have b3 := hp.m2; have b4 := hp.v; have b5 := hp.d1; have b6 := hp.d2; have b7 := hp.c; first | omega | (have hq1 := (perm_sorted (by omega) hsosgq2).2 (hp.perm.congr fun k k0 k1 => (catN2 t.nf t.nb t.F t.B k0).symm) i (by omega) (by omega); omega)), hS.nl⟩
   refine zsk <| zbn <| ztn <| zrg ?_
   refine zlv (xadd (r := i + 1)) ?_
   refine zlv xmv ?_
   refine zln <| zlq ⟨i + 1, rfl, (by omega), (by omega), ?_, rfl, hS⟩
   ·
    intro k h0' h1'; rcases Int.lt_or_eq_of_le (show k ≤ i by omega) with hk | hk; exact hall k h0' hk; rw [hk]; omega
  refine zxt <| ztx <| ztx <| zbh <| ztn <| zsr ?_
  refine zlv (xfb 4 fd_30_4) ?_
  refine zlv (xlb 0 pl_23 hS) ?_
  refine zlv xmf ?_
  refine zlc (xc0 cl_25) (c_comp (n := t.nc) (q := t.nf) (vv := vv) (ln := t.ln) (f := t.C) w (hT.C.below hS.below) (hS.cellN 1 rfl rfl) (by omega)) ?_; rintro _ w ⟨rfl, hS'⟩
  replace hS := hS.cmp hS'; clear hS'
  refine zs2 ?_
  refine zlt <| zrt <| zf1 ⟨_, rfl, ?_⟩
  refine ⟨B_congr ⟨fun hx => ?_, fun hp hx => ?_⟩, hS.nl⟩
  · refine ⟨by omega, by omega, by omega, by omega, by omega, by omega, by omega, ((perm_sorted (by omega) hsosgq2).1 fun k k0 k1 => hall k k0 (by omega)).congr fun k k0 k1 => catN2 t.nf t.nb t.F t.B k0, fun k k0 k1 => ?_⟩
    have hy := Classical.not_not.1 fun hh => hx ⟨k, k0, k1, hh⟩
    exact ⟨hy.1, hy.2⟩
  · obtain ⟨k, k0, k1, hh⟩ := hx
    have hr := hp.rows k k0 k1
    exact hh ⟨hr.1, hr.2⟩

end Go.Proofs.Ytkcmbndnhcofpaa
