/- The walks of Check, of the reference, and of permitted. -/
import Derived.Test.YtakgjpmhbfieeaaGc
import Derived.Test.YtakgjpmhbfieeaaW13
namespace Go.Proofs.Ytakgjpmhbfieeaa
open Go Go.RowKit Go.Proofs.Gw
set_option linter.unusedVariables false

theorem cl_41 : calledT Try.prog 41 = true := by kernel_rfl
theorem cl_42 : calledT Try.prog 42 = true := by kernel_rfl
theorem fd_37_0 : fieldT Try.prog 37 0 = some 0 := by kernel_rfl
theorem fd_37_1 : fieldT Try.prog 37 1 = some 1 := by kernel_rfl
theorem fd_37_2 : fieldT Try.prog 37 2 = some 2 := by kernel_rfl
theorem fd_37_3 : fieldT Try.prog 37 3 = some 3 := by kernel_rfl
set_option maxRecDepth 20000 in
theorem c_dot {va vb : Value} {n m : Int} {f g : Int → Int} (w0 : World) (hA : Row w0 va 1 n (ints f)) (hB2 : Row w0 vb 1 m (ints g)) (hnm : n ≤ m) (hn2 : n ≤ 60) (hK : ∀ k, 0 ≤ k → k < n → -1000000 ≤ f k ∧ f k ≤ 1000000) (hG : ∀ k, 0 ≤ k → k < n → -1073741824 ≤ g k ∧ g k ≤ 1073741824) :
    Calls Try.prog 41 [va, vb].toArray w0 fun e w => ∃ v, e = .returned v ∧ v = .int .i64 (dotp f g n.toNat) ∧ Sat w0 w [] := by
  have hn := hA.slh.n0; have hm1 := hB2.slh.n1
  refine zenG Try.func41 Try.ntmps41 fun w hS => ?_
  refine zsq <| zrg ?_
  refine zlv xas ?_
  refine zln <| ztn <| zsq <| zrg ?_
  refine zlv xas ?_
  refine zln <| ztn <| zsq <| zsq <| zrg ?_
  refine zlv xas ?_
  refine zln <| ztn <| zbk <| zlp (fun mm M w => ∃ (x : Int) (i : Int), mm = ((n - i).toNat) ∧ (0 ≤ i) ∧ (i ≤ n) ∧ (x = dotp f g i.toNat) ∧ M = [(0, va), (1, vb), (4, .int .i64 0), (5, .int .i64 x), (6, .int .i64 i)] ∧ Sat w0 w []) ⟨0, 0, rfl, (by omega), (by omega), ?_, rfl, hS⟩ ?_
  ·
   rfl
  ·
   clear hS w
   rintro mm M w ⟨x, i, rfl, h0, h1, hx, rfl, hS⟩
   refine zsq <| zsq <| zrg ?_
   iterate 2 refine zlv xmv ?_
   refine zlv (xln sl_22 hA.slh) ?_
   refine zlv xlss ?_
   refine zln <| ztn ?_
   refine zcif ?_ ?_ <;> intro hc
   ·
    refine zsk <| ztn <| zsq <| zbk ?_
    refine zdst [] [] 1000 mx_ hS ?_; clear hS; intro w hS
    refine zdv 0 (fun _ => xmv) ?_
    refine zdv 1 (fun _ => xmv) ?_
    refine zdv 2 (fun _ => xmv) ?_
    refine zdv 3 (fun _ => (xix (kk := i) sl_22 hA.slh)) ?_
    refine zdla 4 (fun w hS => (xlr (u := .int .i64 (f i)) pl_3 (hA.below hS.below))) ?_
    refine zdv 5 (fun _ => xmv) ?_
    refine zdv 6 (fun _ => xmv) ?_
    refine zdv 7 (fun _ => (xix (kk := i) sl_22 hB2.slh)) ?_
    refine zdla 8 (fun w hS => (xlr (u := .int .i64 (g i)) pl_3 (hB2.below hS.below))) ?_
    have hmu := mul_abs (hK i h0 (by omega)) (hG i h0 (by omega))
    have hbd := dotp_bd (f := f) (g := g) (A := 1000000) (B := 1073741824) (by omega) (by omega) i.toNat (fun k k0 k1 => hK k k0 (by omega)) (fun k k0 k1 => hG k k0 (by omega))
    refine zdv 9 (fun _ => (xmul (r := ((f i) * (g i))) (e := rfl))) ?_
    refine zdv 10 (fun _ => (xadd (r := x + ((f i) * (g i))))) ?_
    refine zdv 11 (fun _ => xas) ?_
    refine zdd <| zbn <| ztn <| zrg ?_
    refine zlv xmv ?_
    refine zlv (xadd (r := i + 1)) ?_
    refine zlv xas ?_
    refine zln <| zlq ⟨x + ((f i) * (g i)), i + 1, rfl, (by omega), (by omega), ?_, rfl, hS⟩
    ·
     rw [dotp_next f g h0, ← hx]
   ·
    refine zxt <| ztx <| ztx <| zbh <| ztn <| zsq <| zrg ?_
    refine zlv xmv ?_
    refine zlv xas ?_
    refine zln <| ztn <| zrt <| zf1 ⟨_, rfl, ?_⟩
    obtain rfl : i = n := by omega
    exact ⟨by rw [hx], hS⟩

set_option maxRecDepth 20000 in
theorem c_column {vc vA vb : Value} {vq : Int → Value} {p : Lp} {j : Int} (w0 : World) (hL : LAt w0 vc vA vb vq p) (hl : LOk p) (j0 : 0 ≤ j) (j1 : j < p.n) :
    Calls Try.prog 42 [.agg #[vc, vA, vb], .int .i64 j].toArray w0 fun e w => ∃ v, e = .returned v ∧ ∃ r, v = r ∧ Slh r p.m ∧ Sat w0 w [.own r 1 3 p.m (ints (fun i => p.A i j))] := by
  have hn := hL.c.slh.n0; have hn1 := hL.c.slh.n1; have hm := hL.A.row.slh.n0; have hm1 := hL.A.row.slh.n1; have hk := hL.b.slh.n0; have hk1 := hL.b.slh.n1
  have b1 := hl.n1; have b2 := hl.n2; have b3 := hl.m2; have b4 := hl.k
  refine zenG Try.func42 Try.ntmps42 fun w hS => ?_
  refine zsq <| zrg ?_
  refine zla (xbx (cs := [_, _, _]) hS) ?_; rintro _ w ⟨g1, rfl, hS⟩
  replace hS : Sat w0 w [.blk _ [_, _, _]] := hS
  refine zlv xas ?_
  refine zln <| ztn <| zsq <| zrg ?_
  refine zlv xas ?_
  refine zln <| ztn <| zsq <| zsq <| zrg ?_
  refine zlv xas ?_
  refine zln <| ztn <| zbk ?_
  replace hS := hS.addnil 1 3 (ints (fun _ => 0))
  replace hS : Sat w0 w [.blk _ [_, _, _], _] := hS
  refine zlp (fun mm M w => ∃ (nO : Int) (i : Int) (wO : Value) (fO : Int → Int), mm = ((p.m - i).toNat) ∧ (0 ≤ i) ∧ (i ≤ p.m) ∧ (nO = i) ∧ (∀ k, 0 ≤ k → k < i → fO k = p.A k j) ∧ (Slh wO nO) ∧ M = [(1, .int .i64 j), (2, .pointer (some ⟨g1, 0, none⟩)), (4, .slice none 0 0), (5, wO), (6, .int .i64 i)] ∧ Sat w0 w [.blk g1 [vc, vA, vb], .own wO 1 3 nO (ints fO)]) ⟨0, 0, (.slice none 0 0), (fun _ => 0), rfl, (by omega), (by omega), (by omega), ?_, ?_, rfl, hS⟩ ?_
  ·
   intro k k0 k1; omega
  ·
   exact slh_nil
  ·
   clear hS w
   rintro mm M w ⟨nO, i, wO, fO, rfl, h0, h1, hnO, hfO, hwO, rfl, hS⟩
   refine zsq <| zsq <| zrg ?_
   refine zlv xmv ?_
   refine zlv (xfb 1 fd_25_1) ?_
   refine zlv (xlb 0 pl_23 hS) ?_
   refine zlv (xln sl_23 hL.A.row.slh) ?_
   have hri := hl.rows i h0
   refine zlv xlss ?_
   refine zln <| ztn ?_
   refine zcif ?_ ?_ <;> intro hc
   ·
    refine zsk <| ztn <| zsq <| zbk <| zrg ?_
    refine zlv xmv ?_
    refine zlv (xfb 1 fd_25_1) ?_
    refine zlv (xlb 0 pl_23 hS) ?_
    refine zlv xmv ?_
    refine zlv (xix (kk := i) sl_23 hL.A.row.slh) ?_
    refine zlv (xlr (u := (vq i)) pl_22 (hL.A.row.below hS.below)) ?_
    refine zlv xmv ?_
    refine zlv (xix (kk := j) sl_22 (hL.A.p i (by omega) (by omega)).slh) ?_
    refine zlv (xlr (u := .int .i64 ((p.A i) j)) pl_3 ((hL.A.p i (by omega) (by omega)).below hS.below)) ?_
    refine zla (xli (n := 1) (len := 1) (pv := [(0, .int .i64 ((p.A i) j))]) (cs := [.int .i64 ((p.A i) j)]) (c := ints (fun _ => ((p.A i) j))) sl_22 el_3 hS) ?_; rintro v1 w ⟨hS, hv1⟩
    replace hS : Sat w0 w [.blk _ [_, _, _], _, _] := hS
    refine zla (xap 1 (r := nO + 1) sl_22 el_3 hS (hS.rowN 2 rfl) (cat_snoc _ _ _)) ?_; rintro v2 w ⟨hS, hv2⟩
    replace hS : Sat w0 w [.blk _ [_, _, _], _, _] := hS
    refine zlv xas ?_
    refine zln <| zbn <| ztn <| zrg ?_
    refine zlv xmv ?_
    refine zlv (xadd (r := i + 1)) ?_
    refine zlv xas ?_
    refine zln <| zlq ⟨nO + 1, i + 1, v2, (snoc fO nO ((p.A i) j)), rfl, (by omega), (by omega), (by omega), ?_, ?_, rfl, hS.pk [0, 1]⟩
    ·
     intro k k0 k1; by_cases e : k < nO
     · rw [snoc_lt e]; exact hfO k k0 (by omega)
     · rw [snoc_at e]; congr 1; omega
    ·
     exact hv2
   ·
    refine zxt <| ztx <| ztx <| zbh <| ztn <| zsq <| zrg ?_
    refine zlv xmv ?_
    refine zlv xas ?_
    refine zln <| ztn <| zrt <| zf1 ⟨_, rfl, ?_⟩
    obtain rfl : i = p.m := by omega
    subst hnO
    replace hS := hS.recont 1 rfl (d := ints (fun i => p.A i j)) (fun k k0 k1 => by unfold ints; rw [hfO k k0 (by simp at k1; omega)])
    exact ⟨_, rfl, hwO, hS.pk [1]⟩

set_option maxRecDepth 20000 in
theorem c_rcheck {vc vA vb : Value} {vq : Int → Value} {p : Lp} {vX vY : Value} {s : So} (w0 : World) (hL : LAt w0 vc vA vb vq p) (hX : Row w0 vX 1 s.n (ints s.X)) (hY : Row w0 vY 1 s.m (ints s.Y)) :
    Calls Try.prog 17 [.agg #[vc, vA, vb], .agg #[vX, vY, .int .i64 s.val, .int .i64 s.den]].toArray w0 fun e w => ∃ v, e = .returned v ∧ v = B (ChkS p s) ∧ Sat w0 w [] := by
  have hn := hL.c.slh.n0; have hn1 := hL.c.slh.n1; have hm := hL.A.row.slh.n0; have hm1 := hL.A.row.slh.n1; have hk := hL.b.slh.n0; have hk1 := hL.b.slh.n1
  refine zenG Try.func17 Try.ntmps17 fun w hS => ?_
  refine zsq <| zrg ?_
  refine zla (xbx (cs := [_, _, _]) hS) ?_; rintro _ w ⟨g1, rfl, hS⟩
  replace hS : Sat w0 w [.blk _ [_, _, _]] := hS
  refine zla (xbx (cs := [_, _, _, _]) hS) ?_; rintro _ w ⟨g2, rfl, hS⟩
  replace hS : Sat w0 w [.blk _ [_, _, _], .blk _ [_, _, _, _]] := hS
  refine zlv xas ?_
  refine zln <| ztn <| zsq <| zsq <| zrg ?_
  refine zlv (xls 0 st_25 hS) ?_
  refine zlc (xc0 cl_14) (c_rvalid (p := p) w (hL.below hS.below)) ?_; rintro _ w ⟨rfl, hS'⟩
  replace hS := hS.cmp hS'; clear hS'
  refine zlv xnot ?_
  refine zlv xmv ?_
  refine zlb 10 ?_ ?_ <;> intro hc
  ·
   iterate 3 refine zlo ?_
   refine zlv xpt ?_
   refine zlv xmv ?_
   iterate 3 refine zlo ?_
   refine zlv xpt ?_
   refine zlv xmv ?_
   iterate 7 refine zlo ?_
   refine zlv xpt ?_
   refine zlv xmv ?_
   iterate 7 refine zlo ?_
   refine zlv xpt ?_
   refine zlv xmv ?_
   iterate 4 refine zlo ?_
   refine zlv xpt ?_
   refine zlv xmv ?_
   iterate 4 refine zlo ?_
   refine zlv xpt ?_
   refine zlv xmv ?_
   iterate 3 refine zlo ?_
   refine zlv xpt ?_
   refine zlv xmv ?_
   iterate 3 refine zlo ?_
   refine zlv xpt ?_
   refine zln <| ztn <| zct <| zsq <| zrg ?_
   refine zlv xas ?_
   refine zln <| ztn <| zrt <| ztr <| zf1 ⟨_, rfl, ?_⟩
   exact ⟨false_B (fun hk => by
    have e1 := hk.d1; have e2 := hk.d2; have e3 := hk.n; have e4 := hk.m; have e5 := hk.cX; have e6 := hk.bY; have e0 := hk.v
    first
    | omega
    | exact absurd hk.ok ‹¬ LOk p›
    | exact absurd (fun k k0 k1 => hk.X k k0 (by omega)) ‹¬ (∀ k, 0 ≤ k → k < s.n → 0 ≤ s.X k ∧ s.X k ≤ 1073741824)›
    | exact absurd (fun k k0 k1 => hk.Y k k0 (by omega)) ‹¬ (∀ k, 0 ≤ k → k < s.m → 0 ≤ s.Y k ∧ s.Y k ≤ 1073741824)›
    | (have e7 := hk.rows i h0 (by omega); have e8 := (hl.rows i h0 (by omega)).1; rw [← e8] at e7; omega)
    | (have e7 := hk.cols j j0 (by omega); rw [wgt_dotp] at e7; omega)
    | (rw [b4] at *; omega)), hS.nl⟩
  ·
   refine zlv (xfb 3 fd_37_3) ?_
   refine zlv (xlb 1 pl_3 hS) ?_
   refine zlv xlss ?_
   refine zlv xpf ?_
   refine zlv xmv ?_
   refine zlb 15 ?_ ?_ <;> intro hc
   ·
    iterate 3 refine zlo ?_
    refine zlv xpt ?_
    refine zlv xmv ?_
    iterate 7 refine zlo ?_
    refine zlv xpt ?_
    refine zlv xmv ?_
    iterate 7 refine zlo ?_
    refine zlv xpt ?_
    refine zlv xmv ?_
    iterate 4 refine zlo ?_
    refine zlv xpt ?_
    refine zlv xmv ?_
    iterate 4 refine zlo ?_
    refine zlv xpt ?_
    refine zlv xmv ?_
    iterate 3 refine zlo ?_
    refine zlv xpt ?_
    refine zlv xmv ?_
    iterate 3 refine zlo ?_
    refine zlv xpt ?_
    refine zln <| ztn <| zct <| zsq <| zrg ?_
    refine zlv xas ?_
    refine zln <| ztn <| zrt <| ztr <| zf1 ⟨_, rfl, ?_⟩
    exact ⟨false_B (fun hk => by
     have e1 := hk.d1; have e2 := hk.d2; have e3 := hk.n; have e4 := hk.m; have e5 := hk.cX; have e6 := hk.bY; have e0 := hk.v
     first
     | omega
     | exact absurd hk.ok ‹¬ LOk p›
     | exact absurd (fun k k0 k1 => hk.X k k0 (by omega)) ‹¬ (∀ k, 0 ≤ k → k < s.n → 0 ≤ s.X k ∧ s.X k ≤ 1073741824)›
     | exact absurd (fun k k0 k1 => hk.Y k k0 (by omega)) ‹¬ (∀ k, 0 ≤ k → k < s.m → 0 ≤ s.Y k ∧ s.Y k ≤ 1073741824)›
     | (have e7 := hk.rows i h0 (by omega); have e8 := (hl.rows i h0 (by omega)).1; rw [← e8] at e7; omega)
     | (have e7 := hk.cols j j0 (by omega); rw [wgt_dotp] at e7; omega)
     | (rw [b4] at *; omega)), hS.nl⟩
   ·
    refine zlv (xfb 3 fd_37_3) ?_
    refine zlv (xlb 1 pl_3 hS) ?_
    refine zlv xgtr ?_
    refine zlv xpf ?_
    refine zlv xmv ?_
    refine zlb 20 ?_ ?_ <;> intro hc
    ·
     iterate 7 refine zlo ?_
     refine zlv xpt ?_
     refine zlv xmv ?_
     iterate 7 refine zlo ?_
     refine zlv xpt ?_
     refine zlv xmv ?_
     iterate 4 refine zlo ?_
     refine zlv xpt ?_
     refine zlv xmv ?_
     iterate 4 refine zlo ?_
     refine zlv xpt ?_
     refine zlv xmv ?_
     iterate 3 refine zlo ?_
     refine zlv xpt ?_
     refine zlv xmv ?_
     iterate 3 refine zlo ?_
     refine zlv xpt ?_
     refine zln <| ztn <| zct <| zsq <| zrg ?_
     refine zlv xas ?_
     refine zln <| ztn <| zrt <| ztr <| zf1 ⟨_, rfl, ?_⟩
     exact ⟨false_B (fun hk => by
      have e1 := hk.d1; have e2 := hk.d2; have e3 := hk.n; have e4 := hk.m; have e5 := hk.cX; have e6 := hk.bY; have e0 := hk.v
      first
      | omega
      | exact absurd hk.ok ‹¬ LOk p›
      | exact absurd (fun k k0 k1 => hk.X k k0 (by omega)) ‹¬ (∀ k, 0 ≤ k → k < s.n → 0 ≤ s.X k ∧ s.X k ≤ 1073741824)›
      | exact absurd (fun k k0 k1 => hk.Y k k0 (by omega)) ‹¬ (∀ k, 0 ≤ k → k < s.m → 0 ≤ s.Y k ∧ s.Y k ≤ 1073741824)›
      | (have e7 := hk.rows i h0 (by omega); have e8 := (hl.rows i h0 (by omega)).1; rw [← e8] at e7; omega)
      | (have e7 := hk.cols j j0 (by omega); rw [wgt_dotp] at e7; omega)
      | (rw [b4] at *; omega)), hS.nl⟩
    ·
     refine zlv (xfb 0 fd_37_0) ?_
     refine zlv (xlb 1 pl_22 hS) ?_
     refine zlv (xln sl_22 hX.slh) ?_
     refine zlv (xfb 0 fd_25_0) ?_
     refine zlv (xlb 0 pl_22 hS) ?_
     refine zlv (xln sl_22 hL.c.slh) ?_
     refine zlv xneq ?_
     refine zlv xpf ?_
     refine zlv xmv ?_
     refine zlb 29 ?_ ?_ <;> intro hc
     ·
      iterate 7 refine zlo ?_
      refine zlv xpt ?_
      refine zlv xmv ?_
      iterate 4 refine zlo ?_
      refine zlv xpt ?_
      refine zlv xmv ?_
      iterate 4 refine zlo ?_
      refine zlv xpt ?_
      refine zlv xmv ?_
      iterate 3 refine zlo ?_
      refine zlv xpt ?_
      refine zlv xmv ?_
      iterate 3 refine zlo ?_
      refine zlv xpt ?_
      refine zln <| ztn <| zct <| zsq <| zrg ?_
      refine zlv xas ?_
      refine zln <| ztn <| zrt <| ztr <| zf1 ⟨_, rfl, ?_⟩
      exact ⟨false_B (fun hk => by
       have e1 := hk.d1; have e2 := hk.d2; have e3 := hk.n; have e4 := hk.m; have e5 := hk.cX; have e6 := hk.bY; have e0 := hk.v
       first
       | omega
       | exact absurd hk.ok ‹¬ LOk p›
       | exact absurd (fun k k0 k1 => hk.X k k0 (by omega)) ‹¬ (∀ k, 0 ≤ k → k < s.n → 0 ≤ s.X k ∧ s.X k ≤ 1073741824)›
       | exact absurd (fun k k0 k1 => hk.Y k k0 (by omega)) ‹¬ (∀ k, 0 ≤ k → k < s.m → 0 ≤ s.Y k ∧ s.Y k ≤ 1073741824)›
       | (have e7 := hk.rows i h0 (by omega); have e8 := (hl.rows i h0 (by omega)).1; rw [← e8] at e7; omega)
       | (have e7 := hk.cols j j0 (by omega); rw [wgt_dotp] at e7; omega)
       | (rw [b4] at *; omega)), hS.nl⟩
     ·
      refine zlv (xfb 1 fd_37_1) ?_
      refine zlv (xlb 1 pl_22 hS) ?_
      refine zlv (xln sl_22 hY.slh) ?_
      refine zlv (xfb 1 fd_25_1) ?_
      refine zlv (xlb 0 pl_23 hS) ?_
      refine zlv (xln sl_23 hL.A.row.slh) ?_
      refine zlv xneq ?_
      refine zlv xpf ?_
      refine zlv xmv ?_
      refine zlb 38 ?_ ?_ <;> intro hc
      ·
       iterate 4 refine zlo ?_
       refine zlv xpt ?_
       refine zlv xmv ?_
       iterate 4 refine zlo ?_
       refine zlv xpt ?_
       refine zlv xmv ?_
       iterate 3 refine zlo ?_
       refine zlv xpt ?_
       refine zlv xmv ?_
       iterate 3 refine zlo ?_
       refine zlv xpt ?_
       refine zln <| ztn <| zct <| zsq <| zrg ?_
       refine zlv xas ?_
       refine zln <| ztn <| zrt <| ztr <| zf1 ⟨_, rfl, ?_⟩
       exact ⟨false_B (fun hk => by
        have e1 := hk.d1; have e2 := hk.d2; have e3 := hk.n; have e4 := hk.m; have e5 := hk.cX; have e6 := hk.bY; have e0 := hk.v
        first
        | omega
        | exact absurd hk.ok ‹¬ LOk p›
        | exact absurd (fun k k0 k1 => hk.X k k0 (by omega)) ‹¬ (∀ k, 0 ≤ k → k < s.n → 0 ≤ s.X k ∧ s.X k ≤ 1073741824)›
        | exact absurd (fun k k0 k1 => hk.Y k k0 (by omega)) ‹¬ (∀ k, 0 ≤ k → k < s.m → 0 ≤ s.Y k ∧ s.Y k ≤ 1073741824)›
        | (have e7 := hk.rows i h0 (by omega); have e8 := (hl.rows i h0 (by omega)).1; rw [← e8] at e7; omega)
        | (have e7 := hk.cols j j0 (by omega); rw [wgt_dotp] at e7; omega)
        | (rw [b4] at *; omega)), hS.nl⟩
      ·
       refine zlv (xfb 0 fd_37_0) ?_
       refine zlv (xlb 1 pl_22 hS) ?_
       refine zlc (xc0 cl_39) (c_within (n := s.n) (lo := 0) (hi := 1073741824) (f := s.X) w (hX.below hS.below)) ?_; rintro _ w ⟨rfl, hS'⟩
       replace hS := hS.cmp hS'; clear hS'
       refine zlv xnot ?_
       refine zlv xpf ?_
       refine zlv xmv ?_
       refine zlb 44 ?_ ?_ <;> intro hc
       ·
        iterate 4 refine zlo ?_
        refine zlv xpt ?_
        refine zlv xmv ?_
        iterate 3 refine zlo ?_
        refine zlv xpt ?_
        refine zlv xmv ?_
        iterate 3 refine zlo ?_
        refine zlv xpt ?_
        refine zln <| ztn <| zct <| zsq <| zrg ?_
        refine zlv xas ?_
        refine zln <| ztn <| zrt <| ztr <| zf1 ⟨_, rfl, ?_⟩
        exact ⟨false_B (fun hk => by
         have e1 := hk.d1; have e2 := hk.d2; have e3 := hk.n; have e4 := hk.m; have e5 := hk.cX; have e6 := hk.bY; have e0 := hk.v
         first
         | omega
         | exact absurd hk.ok ‹¬ LOk p›
         | exact absurd (fun k k0 k1 => hk.X k k0 (by omega)) ‹¬ (∀ k, 0 ≤ k → k < s.n → 0 ≤ s.X k ∧ s.X k ≤ 1073741824)›
         | exact absurd (fun k k0 k1 => hk.Y k k0 (by omega)) ‹¬ (∀ k, 0 ≤ k → k < s.m → 0 ≤ s.Y k ∧ s.Y k ≤ 1073741824)›
         | (have e7 := hk.rows i h0 (by omega); have e8 := (hl.rows i h0 (by omega)).1; rw [← e8] at e7; omega)
         | (have e7 := hk.cols j j0 (by omega); rw [wgt_dotp] at e7; omega)
         | (rw [b4] at *; omega)), hS.nl⟩
       ·
        refine zlv (xfb 1 fd_37_1) ?_
        refine zlv (xlb 1 pl_22 hS) ?_
        refine zlc (xc0 cl_39) (c_within (n := s.m) (lo := 0) (hi := 1073741824) (f := s.Y) w (hY.below hS.below)) ?_; rintro _ w ⟨rfl, hS'⟩
        replace hS := hS.cmp hS'; clear hS'
        refine zlv xnot ?_
        refine zlv xpf ?_
        refine zlv xmv ?_
        refine zlb 50 ?_ ?_ <;> intro hc
        ·
         iterate 3 refine zlo ?_
         refine zlv xpt ?_
         refine zlv xmv ?_
         iterate 3 refine zlo ?_
         refine zlv xpt ?_
         refine zln <| ztn <| zct <| zsq <| zrg ?_
         refine zlv xas ?_
         refine zln <| ztn <| zrt <| ztr <| zf1 ⟨_, rfl, ?_⟩
         exact ⟨false_B (fun hk => by
          have e1 := hk.d1; have e2 := hk.d2; have e3 := hk.n; have e4 := hk.m; have e5 := hk.cX; have e6 := hk.bY; have e0 := hk.v
          first
          | omega
          | exact absurd hk.ok ‹¬ LOk p›
          | exact absurd (fun k k0 k1 => hk.X k k0 (by omega)) ‹¬ (∀ k, 0 ≤ k → k < s.n → 0 ≤ s.X k ∧ s.X k ≤ 1073741824)›
          | exact absurd (fun k k0 k1 => hk.Y k k0 (by omega)) ‹¬ (∀ k, 0 ≤ k → k < s.m → 0 ≤ s.Y k ∧ s.Y k ≤ 1073741824)›
          | (have e7 := hk.rows i h0 (by omega); have e8 := (hl.rows i h0 (by omega)).1; rw [← e8] at e7; omega)
          | (have e7 := hk.cols j j0 (by omega); rw [wgt_dotp] at e7; omega)
          | (rw [b4] at *; omega)), hS.nl⟩
        ·
         refine zlv (xfb 2 fd_37_2) ?_
         refine zlv (xlb 1 pl_3 hS) ?_
         refine zlv xlss ?_
         refine zlv xpf ?_
         refine zlv xmv ?_
         refine zlb 55 ?_ ?_ <;> intro hc
         ·
          iterate 3 refine zlo ?_
          refine zlv xpt ?_
          refine zln <| ztn <| zct <| zsq <| zrg ?_
          refine zlv xas ?_
          refine zln <| ztn <| zrt <| ztr <| zf1 ⟨_, rfl, ?_⟩
          exact ⟨false_B (fun hk => by
           have e1 := hk.d1; have e2 := hk.d2; have e3 := hk.n; have e4 := hk.m; have e5 := hk.cX; have e6 := hk.bY; have e0 := hk.v
           first
           | omega
           | exact absurd hk.ok ‹¬ LOk p›
           | exact absurd (fun k k0 k1 => hk.X k k0 (by omega)) ‹¬ (∀ k, 0 ≤ k → k < s.n → 0 ≤ s.X k ∧ s.X k ≤ 1073741824)›
           | exact absurd (fun k k0 k1 => hk.Y k k0 (by omega)) ‹¬ (∀ k, 0 ≤ k → k < s.m → 0 ≤ s.Y k ∧ s.Y k ≤ 1073741824)›
           | (have e7 := hk.rows i h0 (by omega); have e8 := (hl.rows i h0 (by omega)).1; rw [← e8] at e7; omega)
           | (have e7 := hk.cols j j0 (by omega); rw [wgt_dotp] at e7; omega)
           | (rw [b4] at *; omega)), hS.nl⟩
         ·
          refine zlv (xfb 2 fd_37_2) ?_
          refine zlv (xlb 1 pl_3 hS) ?_
          refine zlv xgtr ?_
          refine zlv xpf ?_
          refine zln <| ztn ?_
          refine zcif ?_ ?_ <;> intro hc
          ·
           refine zsq <| zrg ?_
           refine zlv xas ?_
           refine zln <| ztn <| zrt <| ztr <| zf1 ⟨_, rfl, ?_⟩
           exact ⟨false_B (fun hk => by
            have e1 := hk.d1; have e2 := hk.d2; have e3 := hk.n; have e4 := hk.m; have e5 := hk.cX; have e6 := hk.bY; have e0 := hk.v
            first
            | omega
            | exact absurd hk.ok ‹¬ LOk p›
            | exact absurd (fun k k0 k1 => hk.X k k0 (by omega)) ‹¬ (∀ k, 0 ≤ k → k < s.n → 0 ≤ s.X k ∧ s.X k ≤ 1073741824)›
            | exact absurd (fun k k0 k1 => hk.Y k k0 (by omega)) ‹¬ (∀ k, 0 ≤ k → k < s.m → 0 ≤ s.Y k ∧ s.Y k ≤ 1073741824)›
            | (have e7 := hk.rows i h0 (by omega); have e8 := (hl.rows i h0 (by omega)).1; rw [← e8] at e7; omega)
            | (have e7 := hk.cols j j0 (by omega); rw [wgt_dotp] at e7; omega)
            | (rw [b4] at *; omega)), hS.nl⟩
          ·
           refine zsk <| ztn <| zsq <| zsq <| zrg ?_
           refine zlv xas ?_
           refine zln <| ztn <| zbk ?_
           have hl : LOk p := by first | assumption | exact Classical.not_not.1 ‹¬ ¬ (LOk p)›
           have b1 := hl.n1
           have b2 := hl.n2
           have b3 := hl.m2
           have b4 := hl.k
           have hwx : ∀ k, 0 ≤ k → k < s.n → 0 ≤ s.X k ∧ s.X k ≤ 1073741824 := by first | assumption | exact Classical.not_not.1 ‹¬ ¬ (∀ k, 0 ≤ k → k < s.n → 0 ≤ s.X k ∧ s.X k ≤ 1073741824)›
           have hwy : ∀ k, 0 ≤ k → k < s.m → 0 ≤ s.Y k ∧ s.Y k ≤ 1073741824 := by first | assumption | exact Classical.not_not.1 ‹¬ ¬ (∀ k, 0 ≤ k → k < s.m → 0 ≤ s.Y k ∧ s.Y k ≤ 1073741824)›
           have hsn : s.n = p.n := by omega
           have hsm : s.m = p.m := by omega
           have hvv : -1073741824 ≤ s.val ∧ s.val ≤ 1073741824 := by omega
           have hpx : ∀ k, 0 ≤ k → k < p.n → 0 ≤ s.X k ∧ s.X k ≤ 1073741824 := fun k k0 k1 => hwx k k0 (by omega)
           have hpy : ∀ k, 0 ≤ k → k < p.m → 0 ≤ s.Y k ∧ s.Y k ≤ 1073741824 := fun k k0 k1 => hwy k k0 (by omega)
           refine zlp (fun mm M w => ∃ (i : Int), mm = ((p.m - i).toNat) ∧ (0 ≤ i) ∧ (i ≤ p.m) ∧ (∀ k, 0 ≤ k → k < i → p.b k * s.den ≤ dotp (p.A k) s.X p.n.toNat) ∧ M = [(2, .pointer (some ⟨g1, 0, none⟩)), (3, .pointer (some ⟨g2, 0, none⟩)), (5, .int .i64 i)] ∧ Sat w0 w [.blk g1 [vc, vA, vb], .blk g2 [vX, vY, .int .i64 s.val, .int .i64 s.den]]) ⟨0, rfl, (by omega), (by omega), ?_, rfl, hS⟩ ?_
           ·
            intro k k0 k1; omega
           ·
            clear hS w
            rintro mm M w ⟨i, rfl, h0, h1, hrw, rfl, hS⟩
            refine zsq <| zsq <| zrg ?_
            refine zlv xmv ?_
            refine zlv (xfb 1 fd_25_1) ?_
            refine zlv (xlb 0 pl_23 hS) ?_
            refine zlv (xln sl_23 hL.A.row.slh) ?_
            refine zlv xlss ?_
            refine zln <| ztn ?_
            refine zcif ?_ ?_ <;> intro hc
            ·
             refine zsk <| ztn <| zsq <| zbk <| zsq ?_
             refine zdst [0, 1] [0, 1] 1000 mx_ hS ?_; clear hS; intro w hS
             refine zdv 0 (fun _ => (xfb 1 fd_25_1)) ?_
             refine zdla 1 (fun w hS => (xlb 0 pl_23 hS)) ?_
             refine zdv 2 (fun _ => xmv) ?_
             refine zdv 3 (fun _ => (xix (kk := i) sl_23 hL.A.row.slh)) ?_
             refine zdla 4 (fun w hS => (xlr (u := (vq i)) pl_22 (hL.A.row.below hS.below))) ?_
             refine zdv 5 (fun _ => (xfb 0 fd_37_0)) ?_
             refine zdla 6 (fun w hS => (xlb 1 pl_22 hS)) ?_
             refine zdv 8 (fun _ => (xfb 2 fd_25_2)) ?_
             refine zdla 9 (fun w hS => (xlb 0 pl_22 hS)) ?_
             refine zdv 10 (fun _ => xmv) ?_
             refine zdv 11 (fun _ => (xix (kk := i) sl_22 hL.b.slh)) ?_
             refine zdla 12 (fun w hS => (xlr (u := .int .i64 (p.b i)) pl_3 (hL.b.below hS.below))) ?_
             refine zdv 13 (fun _ => (xfb 3 fd_37_3)) ?_
             refine zdla 14 (fun w hS => (xlb 1 pl_3 hS)) ?_
             have hri := (hl.rows i h0 (by omega)).1; have hmu := mul_abs (hl.b i h0 (by omega)) (show -1073741824 ≤ s.den ∧ s.den ≤ 1073741824 by omega)
             refine zdv 15 (fun _ => (xmul (r := ((p.b i) * s.den)) (e := rfl))) ?_
             refine zdc 7 (xc0 cl_41) (c_dot (n := (p.ln i)) (f := (p.A i)) (m := s.n) (g := s.X) w ((hL.A.p i (by omega) (by omega)).below hS.below) (hX.below hS.below) (by omega) (by omega) (fun k k0 k1 => (hl.rows i h0 (by omega)).2 k k0 (by omega)) (fun k k0 k1 => by have := hpx k k0 (by omega); omega)) ?_; rintro _ w ⟨rfl, hS'⟩
             replace hS := hS.cmp hS'; clear hS'
             refine ⟨⟨fun _ => hS, hS⟩, ?_⟩
             refine zdv 16 (fun _ => xlss) ?_
             refine zdd <| ztn ?_
             refine zcif ?_ ?_ <;> intro hc
             ·
              refine zsq <| zrg ?_
              refine zlv xas ?_
              refine zln <| ztn <| zrt <| zbr <| ztr <| ztr <| zbr <| ztr <| zf1 ⟨_, rfl, ?_⟩
              exact ⟨false_B (fun hk => by
               have e1 := hk.d1; have e2 := hk.d2; have e3 := hk.n; have e4 := hk.m; have e5 := hk.cX; have e6 := hk.bY; have e0 := hk.v
               first
               | omega
               | exact absurd hk.ok ‹¬ LOk p›
               | exact absurd (fun k k0 k1 => hk.X k k0 (by omega)) ‹¬ (∀ k, 0 ≤ k → k < s.n → 0 ≤ s.X k ∧ s.X k ≤ 1073741824)›
               | exact absurd (fun k k0 k1 => hk.Y k k0 (by omega)) ‹¬ (∀ k, 0 ≤ k → k < s.m → 0 ≤ s.Y k ∧ s.Y k ≤ 1073741824)›
               | (have e7 := hk.rows i h0 (by omega); have e8 := (hl.rows i h0 (by omega)).1; rw [← e8] at e7; omega)
               | (have e7 := hk.cols j j0 (by omega); rw [wgt_dotp] at e7; omega)
               | (rw [b4] at *; omega)), hS.nl⟩
             ·
              refine zsk <| zbn <| ztn <| zrg ?_
              refine zlv xmv ?_
              refine zlv (xadd (r := i + 1)) ?_
              refine zlv xas ?_
              refine zln <| zlq ⟨i + 1, rfl, (by omega), (by omega), ?_, rfl, hS⟩
              ·
               intro k k0 k1; rcases Int.lt_or_eq_of_le (show k ≤ i by omega) with hk | hk; exact hrw k k0 hk; rw [hk]; have := (hl.rows i h0 (by omega)).1; rw [← this]; omega
            ·
             refine zxt <| ztx <| ztx <| zbh <| ztn <| zsq <| zsq <| zrg ?_
             refine zlv xas ?_
             refine zln <| ztn <| zbk <| zlp (fun mm M w => ∃ (j : Int), mm = ((p.n - j).toNat) ∧ (0 ≤ j) ∧ (j ≤ p.n) ∧ (∀ k, 0 ≤ k → k < j → wgt p.A s.Y p.m.toNat k ≤ p.c k * s.den) ∧ M = [(2, .pointer (some ⟨g1, 0, none⟩)), (3, .pointer (some ⟨g2, 0, none⟩)), (6, .int .i64 j)] ∧ Sat w0 w [.blk g1 [vc, vA, vb], .blk g2 [vX, vY, .int .i64 s.val, .int .i64 s.den]]) ⟨0, rfl, (by omega), (by omega), ?_, rfl, hS⟩ ?_
             ·
              intro k k0 k1; omega
             ·
              clear hS w
              rintro mm M w ⟨j, rfl, j0, j1, hcw, rfl, hS⟩
              refine zsq <| zsq <| zrg ?_
              refine zlv xmv ?_
              refine zlv (xfb 0 fd_25_0) ?_
              refine zlv (xlb 0 pl_22 hS) ?_
              refine zlv (xln sl_22 hL.c.slh) ?_
              refine zlv xlss ?_
              refine zln <| ztn ?_
              refine zcif ?_ ?_ <;> intro hc
              ·
               refine zsk <| ztn <| zsq <| zbk <| zsq ?_
               refine zdst [0, 1] [0, 1] 1000 mx_ hS ?_; clear hS; intro w hS
               refine zdla 0 (fun w hS => (xls 0 st_25 hS)) ?_
               refine zdv 1 (fun _ => xmv) ?_
               refine zdv 3 (fun _ => (xfb 1 fd_37_1)) ?_
               refine zdla 4 (fun w hS => (xlb 1 pl_22 hS)) ?_
               refine zdv 6 (fun _ => (xfb 0 fd_25_0)) ?_
               refine zdla 7 (fun w hS => (xlb 0 pl_22 hS)) ?_
               refine zdv 8 (fun _ => xmv) ?_
               refine zdv 9 (fun _ => (xix (kk := j) sl_22 hL.c.slh)) ?_
               refine zdla 10 (fun w hS => (xlr (u := .int .i64 (p.c j)) pl_3 (hL.c.below hS.below))) ?_
               refine zdv 11 (fun _ => (xfb 3 fd_37_3)) ?_
               refine zdla 12 (fun w hS => (xlb 1 pl_3 hS)) ?_
               have hmu := mul_abs (show -1000000 ≤ p.c j ∧ p.c j ≤ 1000000 by have := hl.c j j0 (by omega); omega) (show -1073741824 ≤ s.den ∧ s.den ≤ 1073741824 by omega)
               refine zdv 13 (fun _ => (xmul (r := ((p.c j) * s.den)) (e := rfl))) ?_
               refine zdc 2 (xc0 cl_42) (c_column (p := p) (j := j) w (hL.below hS.below) hl (by omega) (by omega)) ?_; rintro vq1 w ⟨_, rfl, hslq1, hS'⟩
               replace hS : Sat w0 w [.blk g1 [vc, vA, vb], .blk g2 [vX, vY, .int .i64 s.val, .int .i64 s.den], .own vq1 1 3 p.m (ints (fun i => p.A i j))] := hS.comp hS'; clear hS'
               refine ⟨⟨fun _ => hS.pk [0, 1], hS.pk [0, 1]⟩, ?_⟩
               refine zdc 5 (xc0 cl_41) (c_dot (n := p.m) (f := (fun i => p.A i j)) (m := s.m) (g := s.Y) w (hS.rowN 2 rfl) (hY.below hS.below) (by omega) (by omega) (fun k k0 k1 => (hl.rows k k0 (by omega)).2 j j0 (by omega)) (fun k k0 k1 => by have := hpy k k0 (by omega); omega)) ?_; rintro _ w ⟨rfl, hS'⟩
               replace hS := hS.cmp hS'; clear hS'
               refine ⟨⟨fun _ => hS.pk [0, 1], hS.pk [0, 1]⟩, ?_⟩
               refine zdv 14 (fun _ => xgtr) ?_
               refine zdd <| ztn ?_
               refine zcif ?_ ?_ <;> intro hc
               ·
                refine zsq <| zrg ?_
                refine zlv xas ?_
                refine zln <| ztn <| zrt <| zbr <| ztr <| ztr <| zbr <| ztr <| zf1 ⟨_, rfl, ?_⟩
                exact ⟨false_B (fun hk => by
                 have e1 := hk.d1; have e2 := hk.d2; have e3 := hk.n; have e4 := hk.m; have e5 := hk.cX; have e6 := hk.bY; have e0 := hk.v
                 first
                 | omega
                 | exact absurd hk.ok ‹¬ LOk p›
                 | exact absurd (fun k k0 k1 => hk.X k k0 (by omega)) ‹¬ (∀ k, 0 ≤ k → k < s.n → 0 ≤ s.X k ∧ s.X k ≤ 1073741824)›
                 | exact absurd (fun k k0 k1 => hk.Y k k0 (by omega)) ‹¬ (∀ k, 0 ≤ k → k < s.m → 0 ≤ s.Y k ∧ s.Y k ≤ 1073741824)›
                 | (have e7 := hk.rows i h0 (by omega); have e8 := (hl.rows i h0 (by omega)).1; rw [← e8] at e7; omega)
                 | (have e7 := hk.cols j j0 (by omega); rw [wgt_dotp] at e7; omega)
                 | (rw [b4] at *; omega)), hS.nl⟩
               ·
                refine zsk <| zbn <| ztn <| zrg ?_
                refine zlv xmv ?_
                refine zlv (xadd (r := j + 1)) ?_
                refine zlv xas ?_
                refine zln <| zlq ⟨j + 1, rfl, (by omega), (by omega), ?_, rfl, hS.pk [0, 1]⟩
                ·
                 intro k k0 k1; rcases Int.lt_or_eq_of_le (show k ≤ j by omega) with hk | hk; exact hcw k k0 hk; rw [hk, wgt_dotp]; omega
              ·
               refine zxt <| ztx <| ztx <| zbh <| ztn <| zsq ?_
               refine zdst [0, 1] [0, 1] 1000 mx_ hS ?_; clear hS; intro w hS
               refine zdv 0 (fun _ => (xfb 0 fd_25_0)) ?_
               refine zdla 1 (fun w hS => (xlb 0 pl_22 hS)) ?_
               refine zdv 2 (fun _ => (xfb 0 fd_37_0)) ?_
               refine zdla 3 (fun w hS => (xlb 1 pl_22 hS)) ?_
               refine zdv 5 (fun _ => (xfb 2 fd_37_2)) ?_
               refine zdla 6 (fun w hS => (xlb 1 pl_3 hS)) ?_
               refine zdc 4 (xc0 cl_41) (c_dot (n := p.n) (f := p.c) (m := s.n) (g := s.X) w (hL.c.below hS.below) (hX.below hS.below) (by omega) (by omega) (fun k k0 k1 => by have := hl.c k k0 k1; omega) (fun k k0 k1 => by have := hpx k k0 (by omega); omega)) ?_; rintro _ w ⟨rfl, hS'⟩
               replace hS := hS.cmp hS'; clear hS'
               refine ⟨⟨fun _ => hS, hS⟩, ?_⟩
               refine zdv 7 (fun _ => xeql) ?_
               refine zdv 8 (fun _ => xmv) ?_
               refine zdb 114 ?_ ?_ <;> intro hc
               ·
                refine zdv 9 (fun _ => (xfb 2 fd_25_2)) ?_
                refine zdla 10 (fun w hS => (xlb 0 pl_22 hS)) ?_
                refine zdv 11 (fun _ => (xfb 1 fd_37_1)) ?_
                refine zdla 12 (fun w hS => (xlb 1 pl_22 hS)) ?_
                refine zdv 14 (fun _ => (xfb 2 fd_37_2)) ?_
                refine zdla 15 (fun w hS => (xlb 1 pl_3 hS)) ?_
                refine zdc 13 (xc0 cl_41) (c_dot (n := p.k) (f := p.b) (m := s.m) (g := s.Y) w (hL.b.below hS.below) (hY.below hS.below) (by omega) (by omega) (fun k k0 k1 => hl.b k k0 (by omega)) (fun k k0 k1 => by have := hpy k k0 (by omega); omega)) ?_; rintro _ w ⟨rfl, hS'⟩
                replace hS := hS.cmp hS'; clear hS'
                refine ⟨⟨fun _ => hS, hS⟩, ?_⟩
                refine zdv 16 (fun _ => xeql) ?_
                refine zdv 17 (fun _ => xpt) ?_
                refine zdv 18 (fun _ => xas) ?_
                refine zdd <| ztn <| zrt <| zf1 ⟨_, rfl, ?_⟩
                exact ⟨B_congr ⟨fun hx => ⟨hl, by omega, by omega, hvv, hsn, hsm, hpx, hpy, fun k k0 k1 => hrw k k0 (by omega), fun k k0 k1 => hcw k k0 (by omega), by omega, by first | omega | (rw [← b4]; omega)⟩, fun hk => by have e5 := hk.cX; have e6 := hk.bY; first | omega | (rw [b4]; omega)⟩, hS.nl⟩
               ·
                refine zdof 9 ?_
                refine zdof 10 ?_
                refine zdof 11 ?_
                refine zdof 12 ?_
                refine zdof 14 ?_
                refine zdof 15 ?_
                refine zdof 13 ?_
                refine zdof 16 ?_
                refine zdv 17 (fun _ => xpf) ?_
                refine zdv 18 (fun _ => xas) ?_
                refine zdd <| ztn <| zrt <| zf1 ⟨_, rfl, ?_⟩
                exact ⟨false_B (fun hk => by
                 have e1 := hk.d1; have e2 := hk.d2; have e3 := hk.n; have e4 := hk.m; have e5 := hk.cX; have e6 := hk.bY; have e0 := hk.v
                 first
                 | omega
                 | exact absurd hk.ok ‹¬ LOk p›
                 | exact absurd (fun k k0 k1 => hk.X k k0 (by omega)) ‹¬ (∀ k, 0 ≤ k → k < s.n → 0 ≤ s.X k ∧ s.X k ≤ 1073741824)›
                 | exact absurd (fun k k0 k1 => hk.Y k k0 (by omega)) ‹¬ (∀ k, 0 ≤ k → k < s.m → 0 ≤ s.Y k ∧ s.Y k ≤ 1073741824)›
                 | (have e7 := hk.rows i h0 (by omega); have e8 := (hl.rows i h0 (by omega)).1; rw [← e8] at e7; omega)
                 | (have e7 := hk.cols j j0 (by omega); rw [wgt_dotp] at e7; omega)
                 | (rw [b4] at *; omega)), hS.nl⟩

set_option maxRecDepth 20000 in
theorem c_permitted {vc vA vb : Value} {vq : Int → Value} {p : Lp} {vx : Value} {x : Int → Int} (w0 : World) (hL : LAt w0 vc vA vb vq p) (hl : LOk p) (hx : Row w0 vx 1 p.n (ints x)) (hxb : ∀ k, 0 ≤ k → k < p.n → -1073741824 ≤ x k ∧ x k ≤ 1073741824) :
    Calls Try.prog 19 [.agg #[vc, vA, vb], vx].toArray w0 fun e w => ∃ v, e = .returned v ∧ ∃ (c : Int) (ok : Bool), v = .tuple #[.int .i64 c, .bool ok] ∧ PermR p x c ok ∧ Sat w0 w [] := by
  have hn := hL.c.slh.n0; have hn1 := hL.c.slh.n1; have hm := hL.A.row.slh.n0; have hm1 := hL.A.row.slh.n1; have hk := hL.b.slh.n0; have hk1 := hL.b.slh.n1
  have b1 := hl.n1; have b2 := hl.n2; have b3 := hl.m2; have b4 := hl.k
  refine zenG Try.func19 Try.ntmps19 fun w hS => ?_
  refine zsq <| zrg ?_
  refine zla (xbx (cs := [_, _, _]) hS) ?_; rintro _ w ⟨g1, rfl, hS⟩
  replace hS : Sat w0 w [.blk _ [_, _, _]] := hS
  iterate 2 refine zlv xas ?_
  refine zln <| ztn <| zsq <| zsq <| zrg ?_
  refine zlv (xfb 1 fd_25_1) ?_
  refine zlv (xlb 0 pl_23 hS) ?_
  refine zlv (xln sl_23 hL.A.row.slh) ?_
  refine zlv xmv ?_
  refine zln <| ztn <| zbk <| zlp (fun mm M w => ∃ (i : Int), mm = ((p.m - i).toNat) ∧ (0 ≤ i) ∧ (i ≤ p.m) ∧ (∀ k, 0 ≤ k → k < i → p.b k ≤ dotp (p.A k) x p.n.toNat) ∧ M = [(1, vx), (2, .pointer (some ⟨g1, 0, none⟩)), (13, vA), (14, .int .i64 p.m), (15, .int .i64 i)] ∧ Sat w0 w [.blk g1 [vc, vA, vb]]) ⟨0, rfl, (by omega), (by omega), ?_, rfl, hS⟩ ?_
  ·
   intro k k0 k1; omega
  ·
   clear hS w
   rintro mm M w ⟨i, rfl, h0, h1, hrw, rfl, hS⟩
   refine zsq <| zrg ?_
   refine zlv xlss ?_
   refine zln <| ztn <| zsq ?_
   refine zcif ?_ ?_ <;> intro hc
   ·
    refine zsk <| ztn <| zsq <| zbk <| zsq <| zrg ?_
    refine zlv xmv ?_
    refine zlv (xix (kk := i) sl_23 hL.A.row.slh) ?_
    refine zlv (xlr (u := (vq i)) pl_22 (hL.A.row.below hS.below)) ?_
    iterate 2 refine zlv xas ?_
    refine zln <| ztn <| zsq <| zrg ?_
    refine zlv xas ?_
    refine zln <| ztn <| zsq <| zsq <| zrg ?_
    refine zlv xmv ?_
    refine zlv (xln sl_22 (hL.A.p i (by omega) (by omega)).slh) ?_
    have hri := (hl.rows i h0 (by omega)).1
    refine zlv xmv ?_
    refine zln <| ztn <| zbk <| zlp (fun mm M w => ∃ (y : Int) (j : Int), mm = ((p.ln i - j).toNat) ∧ (0 ≤ j) ∧ (j ≤ p.ln i) ∧ (y = dotp (p.A i) x j.toNat) ∧ M = [(1, vx), (2, .pointer (some ⟨g1, 0, none⟩)), (6, .int .i64 i), (7, (vq i)), (8, .int .i64 y), (13, vA), (14, .int .i64 p.m), (15, .int .i64 i), (21, .int .i64 (p.ln i)), (22, .int .i64 j)] ∧ Sat w0 w [.blk g1 [vc, vA, vb]]) ⟨0, 0, rfl, (by omega), (by omega), ?_, rfl, hS⟩ ?_
    ·
     rfl
    ·
     clear hS w
     rintro mm M w ⟨y, j, rfl, j0, j1, hy, rfl, hS⟩
     refine zsq <| zrg ?_
     refine zlv xlss ?_
     refine zln <| ztn <| zsq ?_
     refine zcif ?_ ?_ <;> intro hc
     ·
      refine zsk <| ztn <| zsq <| zbk <| zsq <| zrg ?_
      refine zlv xmv ?_
      refine zlv xas ?_
      refine zln <| ztn ?_
      refine zdst [0] [0] 1000 mx_ hS ?_; clear hS; intro w hS
      refine zdv 0 (fun _ => xmv) ?_
      refine zdv 1 (fun _ => xmv) ?_
      refine zdv 2 (fun _ => xmv) ?_
      refine zdv 3 (fun _ => (xix (kk := j) sl_22 (hL.A.p i (by omega) (by omega)).slh)) ?_
      refine zdla 4 (fun w hS => (xlr (u := .int .i64 ((p.A i) j)) pl_3 ((hL.A.p i (by omega) (by omega)).below hS.below))) ?_
      refine zdv 5 (fun _ => xmv) ?_
      refine zdv 6 (fun _ => xmv) ?_
      refine zdv 7 (fun _ => (xix (kk := j) sl_22 hx.slh)) ?_
      refine zdla 8 (fun w hS => (xlr (u := .int .i64 (x j)) pl_3 (hx.below hS.below))) ?_
      have hmu := mul_abs ((hl.rows i h0 (by omega)).2 j j0 (by omega)) (hxb j j0 (by omega))
      have hbd := dotp_bd (f := p.A i) (g := x) (A := 1000000) (B := 1073741824) (by omega) (by omega) j.toNat (fun k k0 k1 => (hl.rows i h0 (by omega)).2 k k0 (by omega)) (fun k k0 k1 => hxb k k0 (by omega))
      refine zdv 9 (fun _ => (xmul (r := (((p.A i) j) * (x j))) (e := rfl))) ?_
      refine zdv 10 (fun _ => (xadd (r := y + (((p.A i) j) * (x j))))) ?_
      refine zdv 11 (fun _ => xas) ?_
      refine zdd <| zbn <| ztn <| zrg ?_
      refine zlv (xadd (r := j + 1)) ?_
      refine zlv xmv ?_
      refine zln <| zlq ⟨y + (((p.A i) j) * (x j)), j + 1, rfl, (by omega), (by omega), ?_, rfl, hS⟩
      ·
       rw [dotp_next _ _ j0, ← hy]
     ·
      refine zxt <| ztx <| ztx <| zbh <| ztn <| zsq <| zrg ?_
      refine zlv xmv ?_
      refine zlv (xfb 2 fd_25_2) ?_
      refine zlv (xlb 0 pl_22 hS) ?_
      refine zlv xmv ?_
      refine zlv (xix (kk := i) sl_22 hL.b.slh) ?_
      refine zlv (xlr (u := .int .i64 (p.b i)) pl_3 (hL.b.below hS.below)) ?_
      refine zlv xlss ?_
      refine zln <| ztn ?_
      refine zcif ?_ ?_ <;> intro hc
      ·
       refine zsq <| zrg ?_
       iterate 2 refine zlv xas ?_
       refine zln <| ztn <| zrt <| zbr <| ztr <| ztr <| zbr <| ztr <| zf2 ⟨_, rfl, ?_⟩
       have hri2 := (hl.rows i h0 (by omega)).1
       obtain rfl : j = p.ln i := by omega
       exact ⟨_, false, rfl, .inl ⟨⟨i, h0, by omega, by rw [← hri2]; omega⟩, rfl, rfl⟩, hS.nl⟩
      ·
       refine zsk <| zbn <| ztn <| zrg ?_
       refine zlv (xadd (r := i + 1)) ?_
       refine zlv xmv ?_
       refine zln <| zlq ⟨i + 1, rfl, (by omega), (by omega), ?_, rfl, hS⟩
       ·
        intro k k0 k1; rcases Int.lt_or_eq_of_le (show k ≤ i by omega) with hk | hk; exact hrw k k0 hk; rw [hk]; have := (hl.rows i h0 (by omega)).1; rw [← this]; obtain rfl : j = p.ln i := by omega
        omega
   ·
    refine zxt <| ztx <| ztx <| zbh <| ztn <| zsq <| zrg ?_
    refine zlv xas ?_
    refine zln <| ztn <| zsq <| zsq <| zrg ?_
    refine zlv (xfb 0 fd_25_0) ?_
    refine zlv (xlb 0 pl_22 hS) ?_
    refine zlv (xln sl_22 hL.c.slh) ?_
    refine zlv xmv ?_
    refine zln <| ztn <| zbk <| zlp (fun mm M w => ∃ (y : Int) (j2 : Int), mm = ((p.n - j2).toNat) ∧ (0 ≤ j2) ∧ (j2 ≤ p.n) ∧ (y = dotp p.c x j2.toNat) ∧ M = [(1, vx), (2, .pointer (some ⟨g1, 0, none⟩)), (10, .int .i64 y), (47, .int .i64 p.n), (48, .int .i64 j2)] ∧ Sat w0 w [.blk g1 [vc, vA, vb]]) ⟨0, 0, rfl, (by omega), (by omega), ?_, rfl, hS⟩ ?_
    ·
     rfl
    ·
     clear hS w
     rintro mm M w ⟨y, j2, rfl, c0, c1, hy, rfl, hS⟩
     refine zsq <| zrg ?_
     refine zlv xlss ?_
     refine zln <| ztn <| zsq ?_
     refine zcif ?_ ?_ <;> intro hc
     ·
      refine zsk <| ztn <| zsq <| zbk <| zsq <| zrg ?_
      refine zlv xmv ?_
      refine zlv xas ?_
      refine zln <| ztn ?_
      refine zdst [0] [0] 1000 mx_ hS ?_; clear hS; intro w hS
      refine zdv 0 (fun _ => xmv) ?_
      refine zdv 1 (fun _ => (xfb 0 fd_25_0)) ?_
      refine zdla 2 (fun w hS => (xlb 0 pl_22 hS)) ?_
      refine zdv 3 (fun _ => xmv) ?_
      refine zdv 4 (fun _ => (xix (kk := j2) sl_22 hL.c.slh)) ?_
      refine zdla 5 (fun w hS => (xlr (u := .int .i64 (p.c j2)) pl_3 (hL.c.below hS.below))) ?_
      refine zdv 6 (fun _ => xmv) ?_
      refine zdv 7 (fun _ => xmv) ?_
      refine zdv 8 (fun _ => (xix (kk := j2) sl_22 hx.slh)) ?_
      refine zdla 9 (fun w hS => (xlr (u := .int .i64 (x j2)) pl_3 (hx.below hS.below))) ?_
      have hmu := mul_abs (show -1000000 ≤ p.c j2 ∧ p.c j2 ≤ 1000000 by have := hl.c j2 c0 (by omega); omega) (hxb j2 c0 (by omega))
      have hbd := dotp_bd (f := p.c) (g := x) (A := 1000000) (B := 1073741824) (by omega) (by omega) j2.toNat (fun k k0 k1 => by have := hl.c k k0 (by omega); omega) (fun k k0 k1 => hxb k k0 (by omega))
      refine zdv 10 (fun _ => (xmul (r := ((p.c j2) * (x j2))) (e := rfl))) ?_
      refine zdv 11 (fun _ => (xadd (r := y + ((p.c j2) * (x j2))))) ?_
      refine zdv 12 (fun _ => xas) ?_
      refine zdd <| zbn <| ztn <| zrg ?_
      refine zlv (xadd (r := j2 + 1)) ?_
      refine zlv xmv ?_
      refine zln <| zlq ⟨y + ((p.c j2) * (x j2)), j2 + 1, rfl, (by omega), (by omega), ?_, rfl, hS⟩
      ·
       rw [dotp_next _ _ c0, ← hy]
     ·
      refine zxt <| ztx <| ztx <| zbh <| ztn <| zsq <| zrg ?_
      refine zlv xmv ?_
      iterate 2 refine zlv xas ?_
      refine zln <| ztn <| zrt <| zf2 ⟨_, rfl, ?_⟩
      obtain rfl : j2 = p.n := by omega
      exact ⟨_, true, rfl, .inr ⟨fun k k0 k1 => hrw k k0 (by omega), hy, rfl⟩, hS.nl⟩

end Go.Proofs.Ytakgjpmhbfieeaa
