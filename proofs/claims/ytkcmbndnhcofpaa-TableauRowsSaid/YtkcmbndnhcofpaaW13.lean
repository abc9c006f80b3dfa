/- The walk of TableauPrices. -/
import Derived.Test.YtkcmbndnhcofpaaGv
import Derived.Test.YtkcmbndnhcofpaaW11
import Derived.Test.YtkcmbndnhcofpaaFz
namespace Go.Proofs.Ytkcmbndnhcofpaa
open Go Go.RowKit Go.Proofs.Gw
set_option linter.unusedVariables false

theorem cl_13 : calledT Try.prog 13 = true := by kernel_rfl
theorem fd_25_0 : fieldT Try.prog 25 0 = some 0 := by kernel_rfl
theorem fd_25_1 : fieldT Try.prog 25 1 = some 1 := by kernel_rfl
theorem fd_25_2 : fieldT Try.prog 25 2 = some 2 := by kernel_rfl
theorem st_25 : structT Try.prog 25 = some 3 := by kernel_rfl
set_option maxRecDepth 20000 in
theorem c_few {vc vA vb : Value} {vq : Int → Value} {p : Lp} (w0 : World) (hL : LAt w0 vc vA vb vq p) :
    Calls Try.prog 6 [.agg #[vc, vA, vb]].toArray w0 fun e w => ∃ v, e = .returned v ∧ v = B (FewP p) ∧ Sat w0 w [] := by
  have hn := hL.c.slh.n0; have hn1 := hL.c.slh.n1; have hm := hL.A.row.slh.n0; have hm1 := hL.A.row.slh.n1; have hk := hL.b.slh.n0; have hk1 := hL.b.slh.n1
  refine zenG Try.func6 Try.ntmps6 fun w hS => ?_
  refine zsr ?_
  refine zla (xbx (cs := [_, _, _]) hS) ?_; rintro _ w ⟨g1, rfl, hS⟩
  replace hS := hS.n1
  refine zlv xas ?_
  refine zlt <| zsq <| zsr ?_
  refine zlv xas ?_
  refine zlt <| zbk <| zlp (fun mm M w => ∃ (i : Int), mm = ((p.m - i).toNat) ∧ (0 ≤ i) ∧ (i ≤ p.m) ∧ (∀ k, 0 ≤ k → k < i → p.ln k ≤ 20) ∧ M = [(1, .pointer (some ⟨g1, 0, none⟩)), (3, .int .i64 i)] ∧ Sat w0 w [.blk g1 [vc, vA, vb]]) ⟨0, rfl, (by omega), (by omega), ?_, rfl, hS⟩ ?_
  ·
   intro k k0 k1; omega
  clear hS w
  rintro mm M w ⟨i, rfl, h0, h1, hall, rfl, hS⟩
  refine zsq <| zsr ?_
  refine zlv xmv ?_
  refine zlv (xfb 1 fd_25_1) ?_
  refine zlv (xlb 0 pl_23 hS) ?_
  refine zlv (xln sl_23 hL.A.row.slh) ?_
  refine zlv xlss ?_
  refine zlt ?_
  refine zcif ?_ ?_ <;> intro hc
  ·
   refine zsk <| ztn <| zsq <| zbk <| zsr ?_
   refine zlv (xfb 1 fd_25_1) ?_
   refine zlv (xlb 0 pl_23 hS) ?_
   refine zlv xmv ?_
   refine zlv (xix (kk := i) sl_23 hL.A.row.slh) ?_
   refine zlv (xlr (u := (vq i)) pl_22 (hL.A.row.below hS.below)) ?_
   refine zlv (xln sl_22 (hL.A.p i (by omega) (by omega)).slh) ?_
   refine zlv xgtr ?_
   refine zlt ?_
   refine zcif ?_ ?_ <;> intro hc
   ·
    refine zsr ?_
    refine zlv xas ?_
    refine zlt <| zrt <| zbr <| ztr <| ztr <| zbr <| ztr <| zf1 ⟨_, rfl, ?_⟩
    exact ⟨false_B (by rintro ⟨h1, h2, h3, h4⟩; first | omega | (have := h1 i h0 (by omega); omega)), hS.nl⟩
   refine zsk <| zbn <| ztn <| zrg ?_
   refine zlv xmv ?_
   refine zlv (xadd (r := i + 1)) ?_
   refine zlv xas ?_
   refine zln <| zlq ⟨i + 1, rfl, (by omega), (by omega), ?_, rfl, hS⟩
   ·
    intro k h0' h1'; rcases Int.lt_or_eq_of_le (show k ≤ i by omega) with hk | hk; exact hall k h0' hk; rw [hk]; omega
  refine zxt <| ztx <| ztx <| zbh <| ztn <| zsr ?_
  refine zlv (xfb 0 fd_25_0) ?_
  refine zlv (xlb 0 pl_22 hS) ?_
  refine zlv (xln sl_22 hL.c.slh) ?_
  refine zs2 ?_
  refine zlb 22 ?_ ?_ <;> intro hc
  ·
   refine zlv (xfb 1 fd_25_1) ?_
   refine zlv (xlb 0 pl_23 hS) ?_
   refine zlv (xln sl_23 hL.A.row.slh) ?_
   refine zs3 ?_
   refine zlb 28 ?_ ?_ <;> intro hc
   ·
    refine zlv (xfb 2 fd_25_2) ?_
    refine zlv (xlb 0 pl_22 hS) ?_
    refine zlv (xln sl_22 hL.b.slh) ?_
    refine zs3 ?_
    refine zlt <| zrt <| zf1 ⟨_, rfl, ?_⟩
    exact ⟨B_congr ⟨fun hx => ⟨fun k k0 k1 => hall k k0 (by omega), by omega, by omega, by omega⟩, fun h => by have h1 := h.2.1; have h2 := h.2.2.1; have h3 := h.2.2.2; omega⟩, hS.nl⟩
   iterate 4 refine zlo ?_
   refine zs2 ?_
   refine zlt <| zrt <| zf1 ⟨_, rfl, ?_⟩
   exact ⟨false_B (by rintro ⟨h1, h2, h3, h4⟩; first | omega | (have := h1 i h0 (by omega); omega)), hS.nl⟩
  iterate 4 refine zlo ?_
  refine zs2 ?_
  iterate 4 refine zlo ?_
  refine zs2 ?_
  refine zlt <| zrt <| zf1 ⟨_, rfl, ?_⟩
  exact ⟨false_B (by rintro ⟨h1, h2, h3, h4⟩; first | omega | (have := h1 i h0 (by omega); omega)), hS.nl⟩

set_option maxRecDepth 20000 in
theorem c_rvalid {vc vA vb : Value} {vq : Int → Value} {p : Lp} (w0 : World) (hL : LAt w0 vc vA vb vq p) :
    Calls Try.prog 7 [.agg #[vc, vA, vb]].toArray w0 fun e w => ∃ v, e = .returned v ∧ v = B (LOk p) ∧ Sat w0 w [] := by
  have hn := hL.c.slh.n0; have hn1 := hL.c.slh.n1; have hm := hL.A.row.slh.n0; have hm1 := hL.A.row.slh.n1; have hk := hL.b.slh.n0; have hk1 := hL.b.slh.n1
  refine zenG Try.func7 Try.ntmps7 fun w hS => ?_
  refine zsr ?_
  refine zla (xbx (cs := [_, _, _]) hS) ?_; rintro _ w ⟨g1, rfl, hS⟩
  replace hS := hS.n1
  refine zlv xas ?_
  refine zlt <| zsq <| zsr ?_
  refine zlv xas ?_
  refine zlt <| zbk <| zlp (fun mm M w => ∃ (i : Int), mm = ((p.m - i).toNat) ∧ (0 ≤ i) ∧ (i ≤ p.m) ∧ (∀ k, 0 ≤ k → k < i → p.ln k = p.n ∧ ∀ j, 0 ≤ j → j < p.n → -1000000 ≤ p.A k j ∧ p.A k j ≤ 1000000) ∧ M = [(1, .pointer (some ⟨g1, 0, none⟩)), (3, .int .i64 i)] ∧ Sat w0 w [.blk g1 [vc, vA, vb]]) ⟨0, rfl, (by omega), (by omega), ?_, rfl, hS⟩ ?_
  ·
   intro k k0 k1; omega
  clear hS w
  rintro mm M w ⟨i, rfl, h0, h1, hall, rfl, hS⟩
  refine zsq <| zsr ?_
  refine zlv xmv ?_
  refine zlv (xfb 1 fd_25_1) ?_
  refine zlv (xlb 0 pl_23 hS) ?_
  refine zlv (xln sl_23 hL.A.row.slh) ?_
  refine zlv xlss ?_
  refine zlt ?_
  refine zcif ?_ ?_ <;> intro hc
  ·
   refine zsk <| ztn <| zsq <| zbk <| zsq ?_
   refine zdst [0] [0] 1000 mx_ hS ?_; clear hS; intro w hS
   refine zdv 0 (fun _ => (xfb 1 fd_25_1)) ?_
   refine zdla 1 (fun w hS => (xlb 0 pl_23 hS)) ?_
   refine zdv 2 (fun _ => xmv) ?_
   refine zdv 3 (fun _ => (xix (kk := i) sl_23 hL.A.row.slh)) ?_
   refine zdla 4 (fun w hS => (xlr (u := (vq i)) pl_22 (hL.A.row.below hS.below))) ?_
   refine zdv 5 (fun _ => (xln sl_22 (hL.A.p i (by omega) (by omega)).slh)) ?_
   refine zdv 6 (fun _ => (xfb 0 fd_25_0)) ?_
   refine zdla 7 (fun w hS => (xlb 0 pl_22 hS)) ?_
   refine zdv 8 (fun _ => (xln sl_22 hL.c.slh)) ?_
   refine zdv 9 (fun _ => xneq) ?_
   refine zdv 10 (fun _ => xmv) ?_
   refine zdb 21 ?_ ?_ <;> intro hc
   ·
    refine zdof 11 ?_
    refine zdof 12 ?_
    refine zdof 13 ?_
    refine zdof 14 ?_
    refine zdof 15 ?_
    refine zdof 16 ?_
    refine zdof 17 ?_
    refine zdv 18 (fun _ => xpt) ?_
    refine zdd <| ztn <| zct <| zsr ?_
    refine zlv xas ?_
    refine zlt <| zrt <| zbr <| ztr <| ztr <| zbr <| ztr <| zf1 ⟨_, rfl, ?_⟩
    exact ⟨false_B (by intro hl; have b1 := hl.n1; have b2 := hl.n2; have b3 := hl.m2; have b4 := hl.k; first | omega | exact absurd (fun j j0 j1 => by have := hl.c j j0 j1; omega) ‹¬ ∀ k, 0 ≤ k → k < p.n → 0 ≤ p.c k ∧ p.c k ≤ 1000000› | (have := (hl.rows i h0 (by omega)).1; omega) | exact absurd (fun j j0 j1 => (hl.rows i h0 (by omega)).2 j j0 (by have := (hl.rows i h0 (by omega)).1; omega)) ‹¬ ∀ k, 0 ≤ k → k < p.ln i → -1000000 ≤ p.A i k ∧ p.A i k ≤ 1000000›), hS.nl⟩
   refine zdv 11 (fun _ => (xfb 1 fd_25_1)) ?_
   refine zdla 12 (fun w hS => (xlb 0 pl_23 hS)) ?_
   refine zdv 13 (fun _ => xmv) ?_
   refine zdv 14 (fun _ => (xix (kk := i) sl_23 hL.A.row.slh)) ?_
   refine zdla 15 (fun w hS => (xlr (u := (vq i)) pl_22 (hL.A.row.below hS.below))) ?_
   refine zdc 16 (xc0 cl_13) (c_within (n := (p.ln i)) (lo := (-1000000)) (hi := 1000000) (f := (p.A i)) w ((hL.A.p i (by omega) (by omega)).below hS.below)) ?_; rintro _ w ⟨rfl, hS'⟩
   replace hS := hS.cmp hS'; clear hS'
   refine ⟨⟨fun _ => hS, hS⟩, ?_⟩
   refine zdv 17 (fun _ => xnot) ?_
   refine zdv 18 (fun _ => xpf) ?_
   refine zdd <| ztn ?_
   refine zcif ?_ ?_ <;> intro hc
   ·
    refine zsr ?_
    refine zlv xas ?_
    refine zlt <| zrt <| zbr <| ztr <| ztr <| zbr <| ztr <| zf1 ⟨_, rfl, ?_⟩
    exact ⟨false_B (by intro hl; have b1 := hl.n1; have b2 := hl.n2; have b3 := hl.m2; have b4 := hl.k; first | omega | exact absurd (fun j j0 j1 => by have := hl.c j j0 j1; omega) ‹¬ ∀ k, 0 ≤ k → k < p.n → 0 ≤ p.c k ∧ p.c k ≤ 1000000› | (have := (hl.rows i h0 (by omega)).1; omega) | exact absurd (fun j j0 j1 => (hl.rows i h0 (by omega)).2 j j0 (by have := (hl.rows i h0 (by omega)).1; omega)) ‹¬ ∀ k, 0 ≤ k → k < p.ln i → -1000000 ≤ p.A i k ∧ p.A i k ≤ 1000000›), hS.nl⟩
   refine zsk <| zbn <| ztn <| zrg ?_
   refine zlv xmv ?_
   refine zlv (xadd (r := i + 1)) ?_
   refine zlv xas ?_
   refine zln <| zlq ⟨i + 1, rfl, (by omega), (by omega), ?_, rfl, hS⟩
   ·
    have hq : ∀ k, 0 ≤ k → k < p.ln i → -1000000 ≤ p.A i k ∧ p.A i k ≤ 1000000 := by first | assumption | exact Classical.not_not.1 ‹_›
    intro k h0' h1'; rcases Int.lt_or_eq_of_le (show k ≤ i by omega) with hk | hk; exact hall k h0' hk; rw [hk]; exact ⟨by omega, fun j j0 j1 => hq j j0 (by omega)⟩
  refine zxt <| ztx <| ztx <| zbh <| ztn <| zsr ?_
  refine zlv (xfb 0 fd_25_0) ?_
  refine zlv (xlb 0 pl_22 hS) ?_
  refine zlv (xln sl_22 hL.c.slh) ?_
  refine zs2 ?_
  refine zlb 34 ?_ ?_ <;> intro hc
  ·
   refine zlv (xfb 0 fd_25_0) ?_
   refine zlv (xlb 0 pl_22 hS) ?_
   refine zlv (xln sl_22 hL.c.slh) ?_
   refine zs3 ?_
   refine zlb 40 ?_ ?_ <;> intro hc
   ·
    refine zlv (xfb 1 fd_25_1) ?_
    refine zlv (xlb 0 pl_23 hS) ?_
    refine zlv (xln sl_23 hL.A.row.slh) ?_
    refine zs3 ?_
    refine zlb 46 ?_ ?_ <;> intro hc
    ·
     refine zlv (xfb 2 fd_25_2) ?_
     refine zlv (xlb 0 pl_22 hS) ?_
     refine zlv (xln sl_22 hL.b.slh) ?_
     refine zlv (xfb 1 fd_25_1) ?_
     refine zlv (xlb 0 pl_23 hS) ?_
     refine zlv (xln sl_23 hL.A.row.slh) ?_
     refine zs3 ?_
     refine zlb 55 ?_ ?_ <;> intro hc
     ·
      refine zlv (xfb 0 fd_25_0) ?_
      refine zlv (xlb 0 pl_22 hS) ?_
      refine zlc (xc0 cl_13) (c_within (n := p.n) (lo := 0) (hi := 1000000) (f := p.c) w (hL.c.below hS.below)) ?_; rintro _ w ⟨rfl, hS'⟩
      replace hS := hS.cmp hS'; clear hS'
      refine zs2 ?_
      refine zlb 60 ?_ ?_ <;> intro hc
      ·
       refine zlv (xfb 2 fd_25_2) ?_
       refine zlv (xlb 0 pl_22 hS) ?_
       refine zlc (xc0 cl_13) (c_within (n := p.k) (lo := (-1000000)) (hi := 1000000) (f := p.b) w (hL.b.below hS.below)) ?_; rintro _ w ⟨rfl, hS'⟩
       replace hS := hS.cmp hS'; clear hS'
       refine zs2 ?_
       refine zlt <| zrt <| zf1 ⟨_, rfl, ?_⟩
       exact ⟨B_congr ⟨fun hx => ⟨by omega, by omega, by omega, by omega, ‹∀ k, 0 ≤ k → k < p.n → 0 ≤ p.c k ∧ p.c k ≤ 1000000›, fun k k0 k1 => hx k k0 (by omega), fun k k0 k1 => hall k k0 (by omega)⟩, fun hl k k0 k1 => hl.b k k0 (by have := hl.k; omega)⟩, hS.nl⟩
      iterate 3 refine zlo ?_
      refine zs2 ?_
      refine zlt <| zrt <| zf1 ⟨_, rfl, ?_⟩
      exact ⟨false_B (by intro hl; have b1 := hl.n1; have b2 := hl.n2; have b3 := hl.m2; have b4 := hl.k; first | omega | exact absurd (fun j j0 j1 => by have := hl.c j j0 j1; omega) ‹¬ ∀ k, 0 ≤ k → k < p.n → 0 ≤ p.c k ∧ p.c k ≤ 1000000› | (have := (hl.rows i h0 (by omega)).1; omega) | exact absurd (fun j j0 j1 => (hl.rows i h0 (by omega)).2 j j0 (by have := (hl.rows i h0 (by omega)).1; omega)) ‹¬ ∀ k, 0 ≤ k → k < p.ln i → -1000000 ≤ p.A i k ∧ p.A i k ≤ 1000000›), hS.nl⟩
     iterate 3 refine zlo ?_
     refine zs2 ?_
     iterate 3 refine zlo ?_
     refine zs2 ?_
     refine zlt <| zrt <| zf1 ⟨_, rfl, ?_⟩
     exact ⟨false_B (by intro hl; have b1 := hl.n1; have b2 := hl.n2; have b3 := hl.m2; have b4 := hl.k; first | omega | exact absurd (fun j j0 j1 => by have := hl.c j j0 j1; omega) ‹¬ ∀ k, 0 ≤ k → k < p.n → 0 ≤ p.c k ∧ p.c k ≤ 1000000› | (have := (hl.rows i h0 (by omega)).1; omega) | exact absurd (fun j j0 j1 => (hl.rows i h0 (by omega)).2 j j0 (by have := (hl.rows i h0 (by omega)).1; omega)) ‹¬ ∀ k, 0 ≤ k → k < p.ln i → -1000000 ≤ p.A i k ∧ p.A i k ≤ 1000000›), hS.nl⟩
    iterate 7 refine zlo ?_
    refine zs2 ?_
    iterate 3 refine zlo ?_
    refine zs2 ?_
    iterate 3 refine zlo ?_
    refine zs2 ?_
    refine zlt <| zrt <| zf1 ⟨_, rfl, ?_⟩
    exact ⟨false_B (by intro hl; have b1 := hl.n1; have b2 := hl.n2; have b3 := hl.m2; have b4 := hl.k; first | omega | exact absurd (fun j j0 j1 => by have := hl.c j j0 j1; omega) ‹¬ ∀ k, 0 ≤ k → k < p.n → 0 ≤ p.c k ∧ p.c k ≤ 1000000› | (have := (hl.rows i h0 (by omega)).1; omega) | exact absurd (fun j j0 j1 => (hl.rows i h0 (by omega)).2 j j0 (by have := (hl.rows i h0 (by omega)).1; omega)) ‹¬ ∀ k, 0 ≤ k → k < p.ln i → -1000000 ≤ p.A i k ∧ p.A i k ≤ 1000000›), hS.nl⟩
   iterate 4 refine zlo ?_
   refine zs2 ?_
   iterate 7 refine zlo ?_
   refine zs2 ?_
   iterate 3 refine zlo ?_
   refine zs2 ?_
   iterate 3 refine zlo ?_
   refine zs2 ?_
   refine zlt <| zrt <| zf1 ⟨_, rfl, ?_⟩
   exact ⟨false_B (by intro hl; have b1 := hl.n1; have b2 := hl.n2; have b3 := hl.m2; have b4 := hl.k; first | omega | exact absurd (fun j j0 j1 => by have := hl.c j j0 j1; omega) ‹¬ ∀ k, 0 ≤ k → k < p.n → 0 ≤ p.c k ∧ p.c k ≤ 1000000› | (have := (hl.rows i h0 (by omega)).1; omega) | exact absurd (fun j j0 j1 => (hl.rows i h0 (by omega)).2 j j0 (by have := (hl.rows i h0 (by omega)).1; omega)) ‹¬ ∀ k, 0 ≤ k → k < p.ln i → -1000000 ≤ p.A i k ∧ p.A i k ≤ 1000000›), hS.nl⟩
  iterate 4 refine zlo ?_
  refine zs2 ?_
  iterate 4 refine zlo ?_
  refine zs2 ?_
  iterate 7 refine zlo ?_
  refine zs2 ?_
  iterate 3 refine zlo ?_
  refine zs2 ?_
  iterate 3 refine zlo ?_
  refine zs2 ?_
  refine zlt <| zrt <| zf1 ⟨_, rfl, ?_⟩
  exact ⟨false_B (by intro hl; have b1 := hl.n1; have b2 := hl.n2; have b3 := hl.m2; have b4 := hl.k; first | omega | exact absurd (fun j j0 j1 => by have := hl.c j j0 j1; omega) ‹¬ ∀ k, 0 ≤ k → k < p.n → 0 ≤ p.c k ∧ p.c k ≤ 1000000› | (have := (hl.rows i h0 (by omega)).1; omega) | exact absurd (fun j j0 j1 => (hl.rows i h0 (by omega)).2 j j0 (by have := (hl.rows i h0 (by omega)).1; omega)) ‹¬ ∀ k, 0 ≤ k → k < p.ln i → -1000000 ≤ p.A i k ∧ p.A i k ≤ 1000000›), hS.nl⟩

theorem c_own {vc vA vb : Value} {vq : Int → Value} {p : Lp} (w0 : World) (hL : LAt w0 vc vA vb vq p) :
    Calls Try.prog 9 [.agg #[vc, vA, vb]].toArray w0 fun e w => ∃ v, e = .returned v ∧ v = .agg #[vc, vA, vb] ∧ Sat w0 w [] := by
  have hn := hL.c.slh.n0; have hn1 := hL.c.slh.n1; have hm := hL.A.row.slh.n0; have hm1 := hL.A.row.slh.n1; have hk := hL.b.slh.n0; have hk1 := hL.b.slh.n1
  refine zenG Try.func9 Try.ntmps9 fun w hS => ?_
  refine zsr ?_
  refine zla (xbx (cs := [_, _, _]) hS) ?_; rintro _ w ⟨g1, rfl, hS⟩
  replace hS := hS.n1
  refine zla (xal (cs := [_, _, _]) el_34 hS) ?_; rintro _ w ⟨g2, rfl, hS⟩
  replace hS := hS.n2
  refine zlz ?_
  refine zlv (xls 0 st_25 hS) ?_
  refine zle (xsw 1 st_34 hS (hd := (ones_cons hL.c.slh.one (ones_cons hL.A.row.slh.one (ones_cons hL.b.slh.one ones_nil))))) ?_; clear hS; rintro w hS
  replace hS := hS.n2
  refine zlt <| zrt <| zfc 1 st_34 hS ⟨_, rfl, ?_⟩
  exact ⟨rfl, hS.nl⟩

end Go.Proofs.Ytkcmbndnhcofpaa
