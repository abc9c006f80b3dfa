/- The walk of Check, of tableau. -/
import Derived.Test.YtkcmbndnhcofpaaGv
import Derived.Test.YtkcmbndnhcofpaaW8
namespace Go.Proofs.Ytkcmbndnhcofpaa
open Go Go.RowKit Go.Proofs.Gw
set_option linter.unusedVariables false

theorem cl_20 : calledT Try.prog 20 = true := by kernel_rfl
theorem cl_21 : calledT Try.prog 21 = true := by kernel_rfl
theorem cl_22 : calledT Try.prog 22 = true := by kernel_rfl
theorem fd_40_2 : fieldT Try.prog 40 2 = some 2 := by kernel_rfl
theorem fd_40_3 : fieldT Try.prog 40 3 = some 3 := by kernel_rfl
set_option maxRecDepth 20000 in
theorem c_product {va vb : Value} {n m : Int} {f g : Int → Int} (w0 : World) (hA : Row w0 va 1 n (ints f)) (hB2 : Row w0 vb 1 m (ints g)) (hnm : n ≤ m) (hn2 : n ≤ 60) (hK : ∀ k, 0 ≤ k → k < n → -1000000 ≤ f k ∧ f k ≤ 1000000) (hG : ∀ k, 0 ≤ k → k < n → -1073741824 ≤ g k ∧ g k ≤ 1073741824) :
    Calls Try.prog 21 [va, vb].toArray w0 fun e w => ∃ v, e = .returned v ∧ v = .int .i64 (dotp f g n.toNat) ∧ Sat w0 w [] := by
  have hn := hA.slh.n0; have hm1 := hB2.slh.n1
  refine zenG Try.func21 Try.ntmps21 fun w hS => ?_
  refine zsr ?_
  refine zlv xas ?_
  refine zlz ?_
  refine zlv xas ?_
  refine zlt <| zsq <| zsr ?_
  refine zlv xmv ?_
  refine zlv (xln sl_22 hA.slh) ?_
  refine zlv xmv ?_
  refine zlt <| zbk <| zlp (fun mm M w => ∃ (x : Int) (i : Int), mm = ((n - i).toNat) ∧ (0 ≤ i) ∧ (i ≤ n) ∧ (x = dotp f g i.toNat) ∧ M = [(0, va), (1, vb), (4, .int .i64 0), (5, .int .i64 x), (8, .int .i64 n), (9, .int .i64 i)] ∧ Sat w0 w []) ⟨0, 0, rfl, (by omega), (by omega), ?_, rfl, hS⟩ ?_
  ·
   rfl
  clear hS w
  rintro mm M w ⟨x, i, rfl, h0, h1, hx, rfl, hS⟩
  refine zsr ?_
  refine zlv xlss ?_
  refine zlt <| zsq ?_
  refine zcif ?_ ?_ <;> intro hc
  ·
   refine zsk <| ztn <| zsq <| zbk <| zsr ?_
   refine zs2 ?_
   refine zlt ?_
   refine zdst [] [] 1000 mx_ hS ?_; clear hS; intro w hS
   refine zdv 0 (fun _ => xmv) ?_
   refine zdv 1 (fun _ => xmv) ?_
   refine zdv 2 (fun _ => xmv) ?_
   refine zdv 3 (fun _ => (xix (kk := i) sl_22 hA.slh)) ?_
   refine zdla 4 (fun w hS => (xlr (u := .int .i64 (f i)) pl_3 (hA.below hS.below))) ?_
   refine zdv 5 (fun _ => xmv) ?_
   refine zdv 6 (fun _ => xmv) ?_
   refine zdv 7 (fun _ => (xix (kk := i) sl_22 hB2.slh)) ?_
   refine zdla 8 (fun w hS => (xlr (u := .int .i64 (g i)) pl_3 (hB2.below hS.below))) ?_
   have hmu := mul_abs (hK i h0 (by omega)) (hG i h0 (by omega))
   have hbd := dotp_bd (f := f) (g := g) (A := 1000000) (B := 1073741824) (by omega) (by omega) i.toNat (fun k k0 k1 => hK k k0 (by omega)) (fun k k0 k1 => hG k k0 (by omega))
   refine zdv 9 (fun _ => (xmul (r := ((f i) * (g i))) (e := rfl))) ?_
   refine zdv 10 (fun _ => (xadd (r := x + ((f i) * (g i))))) ?_
   refine zdv 11 (fun _ => xas) ?_
   refine zdd <| zbn <| ztn <| zrg ?_
   refine zlv (xadd (r := i + 1)) ?_
   refine zlv xmv ?_
   refine zln <| zlq ⟨x + ((f i) * (g i)), i + 1, rfl, (by omega), (by omega), ?_, rfl, hS⟩
   ·
    rw [dotp_next f g h0, ← hx]
  refine zxt <| ztx <| ztx <| zbh <| ztn <| zsr ?_
  refine zs2 ?_
  refine zlt <| zrt <| zf1 ⟨_, rfl, ?_⟩
  obtain rfl : i = n := by omega
  exact ⟨by rw [hx], hS⟩

set_option maxRecDepth 20000 in
theorem c_positive {v : Value} {m n : Int} {f : Int → Int} (w0 : World) (hR : Row w0 v 1 m (ints f)) :
    Calls Try.prog 20 [v, .int .i64 n].toArray w0 fun e w => ∃ v, e = .returned v ∧ v = B (m = n ∧ ∀ k, 0 ≤ k → k < n → 0 ≤ f k ∧ f k ≤ 1073741824) ∧ Sat w0 w [] := by
  have hn := hR.slh.n0; have hn1 := hR.slh.n1
  refine zenG Try.func20 Try.ntmps20 fun w hS => ?_
  refine zsr ?_
  refine zlv xas ?_
  refine zlz ?_
  refine zlv xmv ?_
  refine zlv (xln sl_22 hR.slh) ?_
  refine zs3 ?_
  refine zlb 9 ?_ ?_ <;> intro hc
  ·
   refine zlv xmv ?_
   refine zlc (xc0 cl_19) (c_between (n := m) (m := 1073741824) (f := f) w (hR.below hS.below) (by omega)) ?_; rintro _ w ⟨rfl, hS'⟩
   replace hS := hS.cmp hS'; clear hS'
   refine zs2 ?_
   refine zlb 13 ?_ ?_ <;> intro hc
   ·
    refine zs3 ?_
    refine zlb 16 ?_ ?_ <;> intro hc
    ·
     iterate 3 refine zlo ?_
     refine zs3 ?_
     refine zlt <| zrt <| zf1 ⟨_, rfl, ?_⟩
     exact ⟨true_B ⟨by omega, fun k k0 k1 => by omega⟩, hS⟩
    refine zlv xmv ?_
    refine zlc (xc0 cl_24) (c_min (n := m) (f := f) w (hR.below hS.below) (by omega)) ?_; rintro _ w ⟨x1, rfl, hex1, hax1, hS'⟩
    replace hS := hS.cmp hS'; clear hS'
    refine zs4 ?_
    refine zlt <| zrt <| zf1 ⟨_, rfl, ?_⟩
    have hbt := ‹Btw f m 1073741824›
    exact ⟨B_congr ⟨fun hx => ⟨by omega, fun k k0 k1 => ⟨by have := hax1 k k0 (by omega); omega, (hbt k k0 (by omega)).2⟩⟩, fun ⟨h1, h2⟩ => by obtain ⟨k, k0, k1, k2⟩ := hex1; have := h2 k k0 (by omega); omega⟩, hS⟩
   iterate 7 refine zlo ?_
   refine zs2 ?_
   refine zlt <| zrt <| zf1 ⟨_, rfl, ?_⟩
   exact ⟨false_B (by rintro ⟨h1, h2⟩; first | omega | exact absurd (fun k k0 k1 => by have := h2 k k0 (by omega); omega) ‹¬ Btw f m 1073741824›), hS⟩
  iterate 2 refine zlo ?_
  refine zs2 ?_
  iterate 7 refine zlo ?_
  refine zs2 ?_
  refine zlt <| zrt <| zf1 ⟨_, rfl, ?_⟩
  exact ⟨false_B (by rintro ⟨h1, h2⟩; first | omega | exact absurd (fun k k0 k1 => by have := h2 k k0 (by omega); omega) ‹¬ Btw f m 1073741824›), hS⟩

set_option maxRecDepth 20000 in
theorem c_weighed {vc vA vb : Value} {vq : Int → Value} {p : Lp} {vy : Value} {y : Int → Int} (w0 : World) (hL : LAt w0 vc vA vb vq p) (hl : LOk p) (hy : Row w0 vy 1 p.m (ints y)) (hyb : ∀ k, 0 ≤ k → k < p.m → -1073741824 ≤ y k ∧ y k ≤ 1073741824) :
    Calls Try.prog 22 [.agg #[vc, vA, vb], vy].toArray w0 fun e w => ∃ v, e = .returned v ∧ ∃ r, v = r ∧ Slh r p.n ∧ Sat w0 w [.own r 1 3 p.n (ints (wgt p.A y p.m.toNat))] := by
  have hn := hL.c.slh.n0; have hn1 := hL.c.slh.n1; have hm := hL.A.row.slh.n0; have hm1 := hL.A.row.slh.n1; have hk := hL.b.slh.n0; have hk1 := hL.b.slh.n1
  have b1 := hl.n1; have b2 := hl.n2; have b3 := hl.m2; have b4 := hl.k
  refine zenG Try.func22 Try.ntmps22 fun w hS => ?_
  refine zsr ?_
  refine zla (xbx (cs := [_, _, _]) hS) ?_; rintro _ w ⟨g1, rfl, hS⟩
  replace hS := hS.n1
  refine zlv xas ?_
  refine zlz ?_
  refine zlv (xfb 0 fd_34_0) ?_
  refine zlv (xlb 0 pl_22 hS) ?_
  refine zlv (xln sl_22 hL.c.slh) ?_
  refine zla (xmk sl_22 el_3 hS) ?_; rintro v1 w ⟨hS, hv1⟩
  replace hS := hS.n2
  refine zlv xas ?_
  refine zlt <| zsq <| zsr ?_
  refine zlv (xfb 1 fd_34_1) ?_
  refine zlv (xlb 0 pl_23 hS) ?_
  refine zlv (xln sl_23 hL.A.row.slh) ?_
  refine zlv xmv ?_
  refine zlt <| zbk <| zlp (fun mm M w => ∃ (i : Int) (fO : Int → Int), mm = ((p.m - i).toNat) ∧ (0 ≤ i) ∧ (i ≤ p.m) ∧ (∀ k, 0 ≤ k → k < p.n → fO k = wgt p.A y i.toNat k) ∧ M = [(1, vy), (4, .slice none 0 0), (5, v1), (15, vA), (16, .int .i64 p.m), (17, .int .i64 i)] ∧ Sat w0 w [.blk g1 [vc, vA, vb], .own v1 1 3 p.n (ints fO)]) ⟨0, (fun _ => 0), rfl, (by omega), (by omega), ?_, rfl, hS⟩ ?_
  ·
   intro k k0 k1; rfl
  clear hS w
  rintro mm M w ⟨i, fO, rfl, h0, h1, hfO, rfl, hS⟩
  refine zsr ?_
  refine zlv xlss ?_
  refine zlt <| zsq ?_
  refine zcif ?_ ?_ <;> intro hc
  ·
   refine zsk <| ztn <| zsq <| zbk <| zsr ?_
   refine zlv xmv ?_
   refine zlv (xix (kk := i) sl_23 hL.A.row.slh) ?_
   refine zlv (xlr (u := (vq i)) pl_22 (hL.A.row.below hS.below)) ?_
   refine zs2 ?_
   refine zlz ?_
   refine zlv xmv ?_
   refine zlv (xln sl_22 (hL.A.p i (by omega) (by omega)).slh) ?_
   have hri := (hl.rows i h0 (by omega)).1
   refine zlv xmv ?_
   refine zlt <| zbk <| zlp (fun mm M w => ∃ (j : Int) (fQ : Int → Int), mm = ((p.n - j).toNat) ∧ (0 ≤ j) ∧ (j ≤ p.n) ∧ (∀ k, 0 ≤ k → k < p.n → fQ k = if k < j then wgt p.A y (i + 1).toNat k else wgt p.A y i.toNat k) ∧ M = [(1, vy), (4, .slice none 0 0), (5, v1), (6, .int .i64 i), (15, vA), (16, .int .i64 p.m), (17, .int .i64 i), (22, (vq i)), (23, .int .i64 (p.ln i)), (24, .int .i64 j)] ∧ Sat w0 w [.blk g1 [vc, vA, vb], .own v1 1 3 p.n (ints fQ)]) ⟨0, fO, rfl, (by omega), (by omega), ?_, rfl, hS⟩ ?_
   ·
    intro k k0 k1; rw [if_neg (by omega)]; exact hfO k k0 k1
   clear hS w
   rintro mm M w ⟨j, fQ, rfl, j0, j1, hfQ, rfl, hS⟩
   refine zsr ?_
   refine zlv xlss ?_
   refine zlt <| zsq ?_
   refine zcif ?_ ?_ <;> intro hc
   ·
    refine zsk <| ztn <| zsq <| zbk <| zsr ?_
    refine zlv xmv ?_
    refine zlv (xix (kk := j) sl_22 (hL.A.p i (by omega) (by omega)).slh) ?_
    refine zlv (xlr (u := .int .i64 ((p.A i) j)) pl_3 ((hL.A.p i (by omega) (by omega)).below hS.below)) ?_
    refine zs2 ?_
    refine zlt ?_
    refine zdst [0, 1] [0] 12 mx_ hS ?_; clear hS; intro w hS
    refine zdv 0 (fun _ => xmv) ?_
    refine zdv 1 (fun _ => xmv) ?_
    refine zdv 2 (fun _ => (xix (kk := j) sl_22 hv1)) ?_
    refine zdl 3 (fun w hS => (xlr (u := .int .i64 (fQ j)) pl_3 (hS.rowN 1 rfl))) ?_
    refine zdv 4 (fun _ => xmv) ?_
    refine zdv 5 (fun _ => xmv) ?_
    refine zdv 6 (fun _ => xmv) ?_
    refine zdv 7 (fun _ => (xix (kk := i) sl_22 hy.slh)) ?_
    refine zdla 8 (fun w hS => (xlr (u := .int .i64 (y i)) pl_3 (hy.below hS.below))) ?_
    have hmu := mul_abs ((hl.rows i h0 (by omega)).2 j j0 (by omega)) (hyb i h0 (by omega)); have hqj := hfQ j j0 (by omega); rw [if_neg (by omega)] at hqj
    have hwb := dotp_bd (f := fun i => p.A i j) (g := y) (A := 1000000) (B := 1073741824) (by omega) (by omega) i.toNat (fun k k0 k1 => (hl.rows k k0 (by omega)).2 j j0 (by omega)) (fun k k0 k1 => hyb k k0 (by omega)); rw [← wgt_dotp] at hwb
    refine zdv 9 (fun _ => (xmul (r := (((p.A i) j) * (y i))) (e := rfl))) ?_
    refine zdv 10 (fun _ => (xadd (r := fQ j + (((p.A i) j) * (y i))))) ?_
    refine zdv 11 (fun _ => (xix (kk := j) sl_22 hv1)) ?_
    refine zde 12 (xso 1 pl_3 hS (upd_ints _ _ _)) ?_; clear hS; rintro w hS
    replace hS := hS.n2
    refine ⟨⟨fun h => absurd h (by decide), hS.pk [0]⟩, ?_⟩
    refine zdd <| zbn <| ztn <| zrg ?_
    refine zlv (xadd (r := j + 1)) ?_
    refine zlv xmv ?_
    refine zln <| zlq ⟨j + 1, (upd fQ j (fQ j + (((p.A i) j) * (y i)))), rfl, (by omega), (by omega), ?_, rfl, hS⟩
    ·
     intro k k0 k1; by_cases e : k = j
     · subst e; rw [upd_self, if_pos (by omega), wgt_next _ _ h0, hfQ k k0 k1, if_neg (by omega)]
     · rw [upd_ne _ _ e, hfQ k k0 k1]; (repeat' split) <;> first | rfl | omega
   refine zxt <| ztx <| ztx <| zbh <| zbn <| ztn <| zrg ?_
   refine zlv (xadd (r := i + 1)) ?_
   refine zlv xmv ?_
   refine zln <| zlq ⟨i + 1, fQ, rfl, (by omega), (by omega), ?_, rfl, hS⟩
   ·
    intro k k0 k1; rw [hfQ k k0 k1, if_pos (by omega)]
  refine zxt <| ztx <| ztx <| zbh <| ztn <| zsr ?_
  refine zs2 ?_
  refine zlt <| zrt <| zf1 ⟨_, rfl, ?_⟩
  obtain rfl : i = p.m := by omega
  replace hS := hS.recont 1 rfl (d := ints (wgt p.A y p.m.toNat)) (fun k k0 k1 => by unfold ints; rw [hfO k k0 (by simp at k1; omega)])
  exact ⟨_, rfl, hv1, hS.pk [1]⟩

set_option maxRecDepth 20000 in
theorem c_check {vc vA vb : Value} {vq : Int → Value} {p : Lp} {vX vY : Value} {s : So} (w0 : World) (hL : LAt w0 vc vA vb vq p) (hX : Row w0 vX 1 s.n (ints s.X)) (hY : Row w0 vY 1 s.m (ints s.Y)) :
    Calls Try.prog 12 [.agg #[vc, vA, vb], .agg #[vX, vY, .int .i64 s.val, .int .i64 s.den]].toArray w0 fun e w => ∃ v, e = .returned v ∧ v = B (ChkS p s) ∧ Sat w0 w [] := by
  have hn := hL.c.slh.n0; have hn1 := hL.c.slh.n1; have hm := hL.A.row.slh.n0; have hm1 := hL.A.row.slh.n1; have hk := hL.b.slh.n0; have hk1 := hL.b.slh.n1
  refine zenG Try.func12 Try.ntmps12 fun w hS => ?_
  refine zsr ?_
  refine zla (xbx (cs := [_, _, _]) hS) ?_; rintro _ w ⟨g1, rfl, hS⟩
  replace hS := hS.n1
  refine zla (xbx (cs := [_, _, _, _]) hS) ?_; rintro _ w ⟨g2, rfl, hS⟩
  replace hS := hS.n2
  refine zlv xas ?_
  refine zlt <| zsq <| zsr ?_
  refine zlv (xls 0 st_34 hS) ?_
  refine zlc (xc0 cl_14) (c_valid (p := p) w (hL.below hS.below)) ?_; rintro _ w ⟨rfl, hS'⟩
  replace hS := hS.cmp hS'; clear hS'
  refine zs2 ?_
  refine zlb 12 ?_ ?_ <;> intro hc
  ·
   iterate 3 refine zlo ?_
   refine zs2 ?_
   iterate 3 refine zlo ?_
   refine zs2 ?_
   iterate 5 refine zlo ?_
   refine zs2 ?_
   iterate 7 refine zlo ?_
   refine zs2 ?_
   iterate 7 refine zlo ?_
   refine zlv xpt ?_
   refine zlt <| zct <| zsr ?_
   refine zlv xas ?_
   refine zlt <| zrt <| ztr <| zf1 ⟨_, rfl, ?_⟩
   exact ⟨false_B (fun hk => by
    have e1 := hk.d1; have e2 := hk.d2; have e3 := hk.n; have e4 := hk.m; have e5 := hk.cX; have e6 := hk.bY
    first
    | omega
    | exact absurd hk.ok ‹¬ LOk p›
    | exact absurd (show Btw (fun x => s.val) 1 1073741824 from fun k k0 k1 => hk.v) ‹¬ Btw (fun x => s.val) 1 1073741824›
    | exact absurd ⟨hk.n, hk.X⟩ ‹¬ (s.n = p.n ∧ ∀ k, 0 ≤ k → k < p.n → 0 ≤ s.X k ∧ s.X k ≤ 1073741824)›
    | exact absurd ⟨hk.m, hk.Y⟩ ‹¬ (s.m = p.m ∧ ∀ k, 0 ≤ k → k < p.m → 0 ≤ s.Y k ∧ s.Y k ≤ 1073741824)›
    | (have e7 := hk.rows i h0 (by omega); have e8 := (hl.rows i h0 (by omega)).1; rw [← e8] at e7; omega)
    | (have e7 := hk.cols j j0 (by omega); omega)
    | (rw [b4] at *; omega)), hS.nl⟩
  refine zlv (xfb 3 fd_40_3) ?_
  refine zlv (xlb 1 pl_3 hS) ?_
  refine zs3 ?_
  refine zlb 17 ?_ ?_ <;> intro hc
  ·
   iterate 3 refine zlo ?_
   refine zs2 ?_
   iterate 5 refine zlo ?_
   refine zs2 ?_
   iterate 7 refine zlo ?_
   refine zs2 ?_
   iterate 7 refine zlo ?_
   refine zlv xpt ?_
   refine zlt <| zct <| zsr ?_
   refine zlv xas ?_
   refine zlt <| zrt <| ztr <| zf1 ⟨_, rfl, ?_⟩
   exact ⟨false_B (fun hk => by
    have e1 := hk.d1; have e2 := hk.d2; have e3 := hk.n; have e4 := hk.m; have e5 := hk.cX; have e6 := hk.bY
    first
    | omega
    | exact absurd hk.ok ‹¬ LOk p›
    | exact absurd (show Btw (fun x => s.val) 1 1073741824 from fun k k0 k1 => hk.v) ‹¬ Btw (fun x => s.val) 1 1073741824›
    | exact absurd ⟨hk.n, hk.X⟩ ‹¬ (s.n = p.n ∧ ∀ k, 0 ≤ k → k < p.n → 0 ≤ s.X k ∧ s.X k ≤ 1073741824)›
    | exact absurd ⟨hk.m, hk.Y⟩ ‹¬ (s.m = p.m ∧ ∀ k, 0 ≤ k → k < p.m → 0 ≤ s.Y k ∧ s.Y k ≤ 1073741824)›
    | (have e7 := hk.rows i h0 (by omega); have e8 := (hl.rows i h0 (by omega)).1; rw [← e8] at e7; omega)
    | (have e7 := hk.cols j j0 (by omega); omega)
    | (rw [b4] at *; omega)), hS.nl⟩
  refine zlv (xfb 3 fd_40_3) ?_
  refine zlv (xlb 1 pl_3 hS) ?_
  refine zs3 ?_
  refine zlb 22 ?_ ?_ <;> intro hc
  ·
   iterate 5 refine zlo ?_
   refine zs2 ?_
   iterate 7 refine zlo ?_
   refine zs2 ?_
   iterate 7 refine zlo ?_
   refine zlv xpt ?_
   refine zlt <| zct <| zsr ?_
   refine zlv xas ?_
   refine zlt <| zrt <| ztr <| zf1 ⟨_, rfl, ?_⟩
   exact ⟨false_B (fun hk => by
    have e1 := hk.d1; have e2 := hk.d2; have e3 := hk.n; have e4 := hk.m; have e5 := hk.cX; have e6 := hk.bY
    first
    | omega
    | exact absurd hk.ok ‹¬ LOk p›
    | exact absurd (show Btw (fun x => s.val) 1 1073741824 from fun k k0 k1 => hk.v) ‹¬ Btw (fun x => s.val) 1 1073741824›
    | exact absurd ⟨hk.n, hk.X⟩ ‹¬ (s.n = p.n ∧ ∀ k, 0 ≤ k → k < p.n → 0 ≤ s.X k ∧ s.X k ≤ 1073741824)›
    | exact absurd ⟨hk.m, hk.Y⟩ ‹¬ (s.m = p.m ∧ ∀ k, 0 ≤ k → k < p.m → 0 ≤ s.Y k ∧ s.Y k ≤ 1073741824)›
    | (have e7 := hk.rows i h0 (by omega); have e8 := (hl.rows i h0 (by omega)).1; rw [← e8] at e7; omega)
    | (have e7 := hk.cols j j0 (by omega); omega)
    | (rw [b4] at *; omega)), hS.nl⟩
  refine zlv (xfb 2 fd_40_2) ?_
  refine zlv (xlb 1 pl_3 hS) ?_
  refine zla (xli (n := 1) (len := 1) (pv := [(0, .int .i64 s.val)]) (cs := [.int .i64 s.val]) (c := ints (fun _ => s.val)) sl_22 el_3 hS) ?_; rintro v1 w ⟨hS, hv1⟩
  replace hS := hS.n3
  refine zlc (xc0 cl_19) (c_between (n := 1) (m := 1073741824) (f := (fun _ => s.val)) w (hS.rowN 2 rfl) (by omega)) ?_; rintro _ w ⟨rfl, hS'⟩
  replace hS := hS.cmp hS'; clear hS'
  refine zs3 ?_
  refine zlb 29 ?_ ?_ <;> intro hc
  ·
   iterate 7 refine zlo ?_
   refine zs2 ?_
   iterate 7 refine zlo ?_
   refine zlv xpt ?_
   refine zlt <| zct <| zsr ?_
   refine zlv xas ?_
   refine zlt <| zrt <| ztr <| zf1 ⟨_, rfl, ?_⟩
   exact ⟨false_B (fun hk => by
    have e1 := hk.d1; have e2 := hk.d2; have e3 := hk.n; have e4 := hk.m; have e5 := hk.cX; have e6 := hk.bY
    first
    | omega
    | exact absurd hk.ok ‹¬ LOk p›
    | exact absurd (show Btw (fun x => s.val) 1 1073741824 from fun k k0 k1 => hk.v) ‹¬ Btw (fun x => s.val) 1 1073741824›
    | exact absurd ⟨hk.n, hk.X⟩ ‹¬ (s.n = p.n ∧ ∀ k, 0 ≤ k → k < p.n → 0 ≤ s.X k ∧ s.X k ≤ 1073741824)›
    | exact absurd ⟨hk.m, hk.Y⟩ ‹¬ (s.m = p.m ∧ ∀ k, 0 ≤ k → k < p.m → 0 ≤ s.Y k ∧ s.Y k ≤ 1073741824)›
    | (have e7 := hk.rows i h0 (by omega); have e8 := (hl.rows i h0 (by omega)).1; rw [← e8] at e7; omega)
    | (have e7 := hk.cols j j0 (by omega); omega)
    | (rw [b4] at *; omega)), hS.nl⟩
  refine zlv (xfb 0 fd_40_0) ?_
  refine zlv (xlb 1 pl_22 hS) ?_
  refine zlv (xfb 0 fd_34_0) ?_
  refine zlv (xlb 0 pl_22 hS) ?_
  refine zlv (xln sl_22 hL.c.slh) ?_
  refine zlc (xc0 cl_20) (c_positive (m := s.n) (n := p.n) (f := s.X) w (hX.below hS.below)) ?_; rintro _ w ⟨rfl, hS'⟩
  replace hS := hS.cmp hS'; clear hS'
  refine zs3 ?_
  refine zlb 38 ?_ ?_ <;> intro hc
  ·
   iterate 7 refine zlo ?_
   refine zlv xpt ?_
   refine zlt <| zct <| zsr ?_
   refine zlv xas ?_
   refine zlt <| zrt <| ztr <| zf1 ⟨_, rfl, ?_⟩
   exact ⟨false_B (fun hk => by
    have e1 := hk.d1; have e2 := hk.d2; have e3 := hk.n; have e4 := hk.m; have e5 := hk.cX; have e6 := hk.bY
    first
    | omega
    | exact absurd hk.ok ‹¬ LOk p›
    | exact absurd (show Btw (fun x => s.val) 1 1073741824 from fun k k0 k1 => hk.v) ‹¬ Btw (fun x => s.val) 1 1073741824›
    | exact absurd ⟨hk.n, hk.X⟩ ‹¬ (s.n = p.n ∧ ∀ k, 0 ≤ k → k < p.n → 0 ≤ s.X k ∧ s.X k ≤ 1073741824)›
    | exact absurd ⟨hk.m, hk.Y⟩ ‹¬ (s.m = p.m ∧ ∀ k, 0 ≤ k → k < p.m → 0 ≤ s.Y k ∧ s.Y k ≤ 1073741824)›
    | (have e7 := hk.rows i h0 (by omega); have e8 := (hl.rows i h0 (by omega)).1; rw [← e8] at e7; omega)
    | (have e7 := hk.cols j j0 (by omega); omega)
    | (rw [b4] at *; omega)), hS.nl⟩
  refine zlv (xfb 1 fd_40_1) ?_
  refine zlv (xlb 1 pl_22 hS) ?_
  refine zlv (xfb 1 fd_34_1) ?_
  refine zlv (xlb 0 pl_23 hS) ?_
  refine zlv (xln sl_23 hL.A.row.slh) ?_
  refine zlc (xc0 cl_20) (c_positive (m := s.m) (n := p.m) (f := s.Y) w (hY.below hS.below)) ?_; rintro _ w ⟨rfl, hS'⟩
  replace hS := hS.cmp hS'; clear hS'
  refine zs2 ?_
  refine zlt ?_
  refine zcif ?_ ?_ <;> intro hc
  ·
   refine zsr ?_
   refine zlv xas ?_
   refine zlt <| zrt <| ztr <| zf1 ⟨_, rfl, ?_⟩
   exact ⟨false_B (fun hk => by
    have e1 := hk.d1; have e2 := hk.d2; have e3 := hk.n; have e4 := hk.m; have e5 := hk.cX; have e6 := hk.bY
    first
    | omega
    | exact absurd hk.ok ‹¬ LOk p›
    | exact absurd (show Btw (fun x => s.val) 1 1073741824 from fun k k0 k1 => hk.v) ‹¬ Btw (fun x => s.val) 1 1073741824›
    | exact absurd ⟨hk.n, hk.X⟩ ‹¬ (s.n = p.n ∧ ∀ k, 0 ≤ k → k < p.n → 0 ≤ s.X k ∧ s.X k ≤ 1073741824)›
    | exact absurd ⟨hk.m, hk.Y⟩ ‹¬ (s.m = p.m ∧ ∀ k, 0 ≤ k → k < p.m → 0 ≤ s.Y k ∧ s.Y k ≤ 1073741824)›
    | (have e7 := hk.rows i h0 (by omega); have e8 := (hl.rows i h0 (by omega)).1; rw [← e8] at e7; omega)
    | (have e7 := hk.cols j j0 (by omega); omega)
    | (rw [b4] at *; omega)), hS.nl⟩
  refine zsk <| ztn <| zsq <| zsr ?_
  refine zlv (xfb 1 fd_34_1) ?_
  refine zlv (xlb 0 pl_23 hS) ?_
  refine zlv (xln sl_23 hL.A.row.slh) ?_
  have hl : LOk p := by first | assumption | exact Classical.not_not.1 ‹¬ ¬ (LOk p)›
  have b1 := hl.n1; have b2 := hl.n2; have b3 := hl.m2; have b4 := hl.k
  have hpx : s.n = p.n ∧ ∀ k, 0 ≤ k → k < p.n → 0 ≤ s.X k ∧ s.X k ≤ 1073741824 := by first | assumption | exact Classical.not_not.1 ‹¬ ¬ (s.n = p.n ∧ ∀ k, 0 ≤ k → k < p.n → 0 ≤ s.X k ∧ s.X k ≤ 1073741824)›
  have hpy : s.m = p.m ∧ ∀ k, 0 ≤ k → k < p.m → 0 ≤ s.Y k ∧ s.Y k ≤ 1073741824 := by first | assumption | exact Classical.not_not.1 ‹¬ ¬ (s.m = p.m ∧ ∀ k, 0 ≤ k → k < p.m → 0 ≤ s.Y k ∧ s.Y k ≤ 1073741824)›
  have hbv : Btw (fun x => s.val) 1 1073741824 := by first | assumption | exact Classical.not_not.1 ‹¬ ¬ (Btw (fun x => s.val) 1 1073741824)›
  have hvv : -1073741824 ≤ s.val ∧ s.val ≤ 1073741824 := hbv 0 (by omega) (by omega)
  have hpx1 := hpx.1; have hpy1 := hpy.1
  have hyb : ∀ k, 0 ≤ k → k < p.m → -1073741824 ≤ s.Y k ∧ s.Y k ≤ 1073741824 := fun k k0 k1 => by have := hpy.2 k k0 k1; omega
  refine zlv xmv ?_
  refine zlt <| zbk <| zlp (fun mm M w => ∃ (i : Int), mm = ((p.m - i).toNat) ∧ (0 ≤ i) ∧ (i ≤ p.m) ∧ (∀ k, 0 ≤ k → k < i → p.b k * s.den ≤ dotp (p.A k) s.X p.n.toNat) ∧ M = [(2, .pointer (some ⟨g1, 0, none⟩)), (3, .pointer (some ⟨g2, 0, none⟩)), (48, vA), (49, .int .i64 p.m), (50, .int .i64 i)] ∧ Sat w0 w [.blk g1 [vc, vA, vb], .blk g2 [vX, vY, .int .i64 s.val, .int .i64 s.den], .own v1 1 3 1 (ints (fun _ => s.val))]) ⟨0, rfl, (by omega), (by omega), ?_, rfl, hS⟩ ?_
  ·
   intro k k0 k1; omega
  clear hS w
  rintro mm M w ⟨i, rfl, h0, h1, hrw, rfl, hS⟩
  refine zsr ?_
  refine zlv xlss ?_
  refine zlt <| zsq ?_
  refine zcif ?_ ?_ <;> intro hc
  ·
   refine zsk <| ztn <| zsq <| zbk <| zsr ?_
   refine zlv xmv ?_
   refine zlv (xix (kk := i) sl_23 hL.A.row.slh) ?_
   refine zlv (xlr (u := (vq i)) pl_22 (hL.A.row.below hS.below)) ?_
   refine zs2 ?_
   refine zlt <| zsq ?_
   refine zdst [0, 1, 2] [0, 1, 2] 1000 mx_ hS ?_; clear hS; intro w hS
   refine zdv 0 (fun _ => xmv) ?_
   refine zdv 1 (fun _ => (xfb 0 fd_40_0)) ?_
   refine zdla 2 (fun w hS => (xlb 1 pl_22 hS)) ?_
   refine zdv 4 (fun _ => (xfb 2 fd_34_2)) ?_
   refine zdla 5 (fun w hS => (xlb 0 pl_22 hS)) ?_
   refine zdv 6 (fun _ => xmv) ?_
   refine zdv 7 (fun _ => (xix (kk := i) sl_22 hL.b.slh)) ?_
   refine zdla 8 (fun w hS => (xlr (u := .int .i64 (p.b i)) pl_3 (hL.b.below hS.below))) ?_
   refine zdv 9 (fun _ => (xfb 3 fd_40_3)) ?_
   refine zdla 10 (fun w hS => (xlb 1 pl_3 hS)) ?_
   have hri := (hl.rows i h0 (by omega)).1; have hmu := mul_abs (hl.b i h0 (by omega)) (show -1073741824 ≤ s.den ∧ s.den ≤ 1073741824 by omega)
   refine zdv 11 (fun _ => (xmul (r := ((p.b i) * s.den)) (e := rfl))) ?_
   refine zdc 3 (xc0 cl_21) (c_product (n := (p.ln i)) (f := (p.A i)) (m := s.n) (g := s.X) w ((hL.A.p i (by omega) (by omega)).below hS.below) (hX.below hS.below) (by omega) (by omega) (fun k k0 k1 => (hl.rows i h0 (by omega)).2 k k0 (by omega)) (fun k k0 k1 => by have := hpx.2 k k0 (by omega); omega)) ?_; rintro _ w ⟨rfl, hS'⟩
   replace hS := hS.cmp hS'; clear hS'
   refine ⟨⟨fun _ => hS, hS⟩, ?_⟩
   refine zdv 12 (fun _ => xlss) ?_
   refine zdd <| ztn ?_
   refine zcif ?_ ?_ <;> intro hc
   ·
    refine zsr ?_
    refine zlv xas ?_
    refine zlt <| zrt <| zbr <| ztr <| ztr <| zbr <| ztr <| zf1 ⟨_, rfl, ?_⟩
    exact ⟨false_B (fun hk => by
     have e1 := hk.d1; have e2 := hk.d2; have e3 := hk.n; have e4 := hk.m; have e5 := hk.cX; have e6 := hk.bY
     first
     | omega
     | exact absurd hk.ok ‹¬ LOk p›
     | exact absurd (show Btw (fun x => s.val) 1 1073741824 from fun k k0 k1 => hk.v) ‹¬ Btw (fun x => s.val) 1 1073741824›
     | exact absurd ⟨hk.n, hk.X⟩ ‹¬ (s.n = p.n ∧ ∀ k, 0 ≤ k → k < p.n → 0 ≤ s.X k ∧ s.X k ≤ 1073741824)›
     | exact absurd ⟨hk.m, hk.Y⟩ ‹¬ (s.m = p.m ∧ ∀ k, 0 ≤ k → k < p.m → 0 ≤ s.Y k ∧ s.Y k ≤ 1073741824)›
     | (have e7 := hk.rows i h0 (by omega); have e8 := (hl.rows i h0 (by omega)).1; rw [← e8] at e7; omega)
     | (have e7 := hk.cols j j0 (by omega); omega)
     | (rw [b4] at *; omega)), hS.nl⟩
   refine zsk <| zbn <| ztn <| zrg ?_
   refine zlv (xadd (r := i + 1)) ?_
   refine zlv xmv ?_
   refine zln <| zlq ⟨i + 1, rfl, (by omega), (by omega), ?_, rfl, hS⟩
   ·
    intro k k0 k1; rcases Int.lt_or_eq_of_le (show k ≤ i by omega) with hk | hk; exact hrw k k0 hk; rw [hk]; have := (hl.rows i h0 (by omega)).1; rw [← this]; omega
  refine zxt <| ztx <| ztx <| zbh <| ztn <| zsq <| zsr ?_
  refine zlv (xls 0 st_34 hS) ?_
  refine zlv (xfb 1 fd_40_1) ?_
  refine zlv (xlb 1 pl_22 hS) ?_
  refine zlc (xc0 cl_22) (c_weighed (p := p) (y := s.Y) w (hL.below hS.below) hl (by have hh := (hY.below hS.below); rw [hpy1] at hh; exact hh) hyb) ?_; rintro vq1 w ⟨_, rfl, hslq1, hS'⟩
  replace hS : Sat w0 w [.blk g1 [vc, vA, vb], .blk g2 [vX, vY, .int .i64 s.val, .int .i64 s.den], .own v1 1 3 1 (ints (fun _ => s.val)), .own vq1 1 3 p.n (ints (wgt p.A s.Y p.m.toNat))] := hS.comp hS'; clear hS'
  refine zlv (xln sl_22 hslq1) ?_
  refine zlv xmv ?_
  refine zlt <| zbk <| zlp (fun mm M w => ∃ (j : Int), mm = ((p.n - j).toNat) ∧ (0 ≤ j) ∧ (j ≤ p.n) ∧ (∀ k, 0 ≤ k → k < j → wgt p.A s.Y p.m.toNat k ≤ p.c k * s.den) ∧ M = [(2, .pointer (some ⟨g1, 0, none⟩)), (3, .pointer (some ⟨g2, 0, none⟩)), (72, vq1), (73, .int .i64 p.n), (74, .int .i64 j)] ∧ Sat w0 w [.blk g1 [vc, vA, vb], .blk g2 [vX, vY, .int .i64 s.val, .int .i64 s.den], .own v1 1 3 1 (ints (fun _ => s.val)), .own vq1 1 3 p.n (ints (wgt p.A s.Y p.m.toNat))]) ⟨0, rfl, (by omega), (by omega), ?_, rfl, hS⟩ ?_
  ·
   intro k k0 k1; omega
  clear hS w
  rintro mm M w ⟨j, rfl, j0, j1, hcw, rfl, hS⟩
  refine zsr ?_
  refine zlv xlss ?_
  refine zlt <| zsq ?_
  refine zcif ?_ ?_ <;> intro hc
  ·
   refine zsk <| ztn <| zsq <| zbk <| zsr ?_
   refine zlv xmv ?_
   refine zlv (xix (kk := j) sl_22 hslq1) ?_
   refine zlv (xlr (u := .int .i64 (wgt p.A s.Y p.m.toNat j)) pl_3 (hS.rowN 3 rfl)) ?_
   refine zs2 ?_
   refine zlt <| zsq ?_
   refine zdst [0, 1, 2, 3] [0, 1, 2, 3] 1000 mx_ hS ?_; clear hS; intro w hS
   refine zdv 0 (fun _ => xmv) ?_
   refine zdv 1 (fun _ => (xfb 0 fd_34_0)) ?_
   refine zdla 2 (fun w hS => (xlb 0 pl_22 hS)) ?_
   refine zdv 3 (fun _ => xmv) ?_
   refine zdv 4 (fun _ => (xix (kk := j) sl_22 hL.c.slh)) ?_
   refine zdla 5 (fun w hS => (xlr (u := .int .i64 (p.c j)) pl_3 (hL.c.below hS.below))) ?_
   refine zdv 6 (fun _ => (xfb 3 fd_40_3)) ?_
   refine zdla 7 (fun w hS => (xlb 1 pl_3 hS)) ?_
   have hmu := mul_abs (show -1000000 ≤ p.c j ∧ p.c j ≤ 1000000 by have := hl.c j j0 (by omega); omega) (show -1073741824 ≤ s.den ∧ s.den ≤ 1073741824 by omega)
   refine zdv 8 (fun _ => (xmul (r := ((p.c j) * s.den)) (e := rfl))) ?_
   refine zdv 9 (fun _ => xgtr) ?_
   refine zdd <| ztn ?_
   refine zcif ?_ ?_ <;> intro hc
   ·
    refine zsr ?_
    refine zlv xas ?_
    refine zlt <| zrt <| zbr <| ztr <| ztr <| zbr <| ztr <| zf1 ⟨_, rfl, ?_⟩
    exact ⟨false_B (fun hk => by
     have e1 := hk.d1; have e2 := hk.d2; have e3 := hk.n; have e4 := hk.m; have e5 := hk.cX; have e6 := hk.bY
     first
     | omega
     | exact absurd hk.ok ‹¬ LOk p›
     | exact absurd (show Btw (fun x => s.val) 1 1073741824 from fun k k0 k1 => hk.v) ‹¬ Btw (fun x => s.val) 1 1073741824›
     | exact absurd ⟨hk.n, hk.X⟩ ‹¬ (s.n = p.n ∧ ∀ k, 0 ≤ k → k < p.n → 0 ≤ s.X k ∧ s.X k ≤ 1073741824)›
     | exact absurd ⟨hk.m, hk.Y⟩ ‹¬ (s.m = p.m ∧ ∀ k, 0 ≤ k → k < p.m → 0 ≤ s.Y k ∧ s.Y k ≤ 1073741824)›
     | (have e7 := hk.rows i h0 (by omega); have e8 := (hl.rows i h0 (by omega)).1; rw [← e8] at e7; omega)
     | (have e7 := hk.cols j j0 (by omega); omega)
     | (rw [b4] at *; omega)), hS.nl⟩
   refine zsk <| zbn <| ztn <| zrg ?_
   refine zlv (xadd (r := j + 1)) ?_
   refine zlv xmv ?_
   refine zln <| zlq ⟨j + 1, rfl, (by omega), (by omega), ?_, rfl, hS⟩
   ·
    intro k k0 k1; rcases Int.lt_or_eq_of_le (show k ≤ j by omega) with hk | hk; exact hcw k k0 hk; rw [hk]; omega
  refine zxt <| ztx <| ztx <| zbh <| ztn <| zsq ?_
  refine zdst [0, 1, 2, 3] [0, 1, 2, 3] 1000 mx_ hS ?_; clear hS; intro w hS
  refine zdv 0 (fun _ => (xfb 0 fd_34_0)) ?_
  refine zdla 1 (fun w hS => (xlb 0 pl_22 hS)) ?_
  refine zdv 2 (fun _ => (xfb 0 fd_40_0)) ?_
  refine zdla 3 (fun w hS => (xlb 1 pl_22 hS)) ?_
  refine zdv 5 (fun _ => (xfb 2 fd_40_2)) ?_
  refine zdla 6 (fun w hS => (xlb 1 pl_3 hS)) ?_
  refine zdc 4 (xc0 cl_21) (c_product (n := p.n) (f := p.c) (m := s.n) (g := s.X) w (hL.c.below hS.below) (hX.below hS.below) (by omega) (by omega) (fun k k0 k1 => by have := hl.c k k0 k1; omega) (fun k k0 k1 => by have := hpx.2 k k0 (by omega); omega)) ?_; rintro _ w ⟨rfl, hS'⟩
  replace hS := hS.cmp hS'; clear hS'
  refine ⟨⟨fun _ => hS, hS⟩, ?_⟩
  refine zdv 7 (fun _ => xeql) ?_
  refine zdv 8 (fun _ => xmv) ?_
  refine zdb 98 ?_ ?_ <;> intro hc
  ·
   refine zdv 9 (fun _ => (xfb 2 fd_34_2)) ?_
   refine zdla 10 (fun w hS => (xlb 0 pl_22 hS)) ?_
   refine zdv 11 (fun _ => (xfb 1 fd_40_1)) ?_
   refine zdla 12 (fun w hS => (xlb 1 pl_22 hS)) ?_
   refine zdv 14 (fun _ => (xfb 2 fd_40_2)) ?_
   refine zdla 15 (fun w hS => (xlb 1 pl_3 hS)) ?_
   refine zdc 13 (xc0 cl_21) (c_product (n := p.k) (f := p.b) (m := s.m) (g := s.Y) w (hL.b.below hS.below) (hY.below hS.below) (by omega) (by omega) (fun k k0 k1 => hl.b k k0 (by omega)) (fun k k0 k1 => by have := hpy.2 k k0 (by omega); omega)) ?_; rintro _ w ⟨rfl, hS'⟩
   replace hS := hS.cmp hS'; clear hS'
   refine ⟨⟨fun _ => hS, hS⟩, ?_⟩
   refine zdv 16 (fun _ => xeql) ?_
   refine zdv 17 (fun _ => xpt) ?_
   refine zdv 18 (fun _ => xas) ?_
   refine zdd <| ztn <| zrt <| zf1 ⟨_, rfl, ?_⟩
   exact ⟨B_congr ⟨fun hx => ⟨hl, by omega, by omega, hvv, hpx.1, hpy.1, hpx.2, hpy.2, fun k k0 k1 => hrw k k0 (by omega), fun k k0 k1 => hcw k k0 (by omega), by omega, by first | omega | (rw [← b4]; omega)⟩, fun hk => by have e5 := hk.cX; have e6 := hk.bY; first | omega | (rw [b4]; omega)⟩, hS.nl⟩
  refine zdof 9 ?_
  refine zdof 10 ?_
  refine zdof 11 ?_
  refine zdof 12 ?_
  refine zdof 14 ?_
  refine zdof 15 ?_
  refine zdof 13 ?_
  refine zdof 16 ?_
  refine zdv 17 (fun _ => xpf) ?_
  refine zdv 18 (fun _ => xas) ?_
  refine zdd <| ztn <| zrt <| zf1 ⟨_, rfl, ?_⟩
  exact ⟨false_B (fun hk => by
   have e1 := hk.d1; have e2 := hk.d2; have e3 := hk.n; have e4 := hk.m; have e5 := hk.cX; have e6 := hk.bY
   first
   | omega
   | exact absurd hk.ok ‹¬ LOk p›
   | exact absurd (show Btw (fun x => s.val) 1 1073741824 from fun k k0 k1 => hk.v) ‹¬ Btw (fun x => s.val) 1 1073741824›
   | exact absurd ⟨hk.n, hk.X⟩ ‹¬ (s.n = p.n ∧ ∀ k, 0 ≤ k → k < p.n → 0 ≤ s.X k ∧ s.X k ≤ 1073741824)›
   | exact absurd ⟨hk.m, hk.Y⟩ ‹¬ (s.m = p.m ∧ ∀ k, 0 ≤ k → k < p.m → 0 ≤ s.Y k ∧ s.Y k ≤ 1073741824)›
   | (have e7 := hk.rows i h0 (by omega); have e8 := (hl.rows i h0 (by omega)).1; rw [← e8] at e7; omega)
   | (have e7 := hk.cols j j0 (by omega); omega)
   | (rw [b4] at *; omega)), hS.nl⟩

end Go.Proofs.Ytkcmbndnhcofpaa
