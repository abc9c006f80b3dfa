/- The walk of cell, of the reference. -/
import Derived.Test.YtelfplepnodbgaaGv
import Derived.Test.YtelfplepnodbgaaW8
import Derived.Test.YtelfplepnodbgaaFi
namespace Go.Proofs.Ytelfplepnodbgaa
open Go Go.RowKit Go.Proofs.Gw
set_option linter.unusedVariables false

theorem cl_133 : calledT Try.prog 133 = true := by kernel_rfl
theorem cl_22 : calledT Try.prog 22 = true := by kernel_rfl
theorem cl_62 : calledT Try.prog 62 = true := by kernel_rfl
theorem cl_68 : calledT Try.prog 68 = true := by kernel_rfl
theorem el_4 : elemT Try.prog 4 = some (.bool false, 1, 1) := by kernel_rfl
theorem fd_25_0 : fieldT Try.prog 25 0 = some 0 := by kernel_rfl
theorem fd_25_1 : fieldT Try.prog 25 1 = some 1 := by kernel_rfl
theorem fd_25_2 : fieldT Try.prog 25 2 = some 2 := by kernel_rfl
theorem fd_25_3 : fieldT Try.prog 25 3 = some 3 := by kernel_rfl
theorem fd_25_4 : fieldT Try.prog 25 4 = some 4 := by kernel_rfl
theorem fd_44_0 : fieldT Try.prog 44 0 = some 0 := by kernel_rfl
theorem fd_44_1 : fieldT Try.prog 44 1 = some 1 := by kernel_rfl
theorem fd_44_2 : fieldT Try.prog 44 2 = some 2 := by kernel_rfl
theorem pl_4 : plainT Try.prog 4 = true := by kernel_rfl
theorem sl_150 : sliceT Try.prog 150 = some (4, 1) := by kernel_rfl
theorem st_25 : structT Try.prog 25 = some 5 := by kernel_rfl
set_option maxRecDepth 20000 in
theorem c_few {vc vA vb : Value} {vq : Int → Value} {p : Lp} (w0 : World) (hL : LAt w0 vc vA vb vq p) :
    Calls Try.prog 24 [.agg #[vc, vA, vb]].toArray w0 fun e w => ∃ v, e = .returned v ∧ v = B (FewP p) ∧ Sat w0 w [] := by
  have hn := hL.c.slh.n0; have hn1 := hL.c.slh.n1; have hm := hL.A.row.slh.n0; have hm1 := hL.A.row.slh.n1; have hk := hL.b.slh.n0; have hk1 := hL.b.slh.n1
  refine zenG Try.func24 Try.ntmps24 fun w hS => ?_
  refine zsr ?_
  refine zla (xbx (cs := [_, _, _]) hS) ?_; rintro _ w ⟨g1, rfl, hS⟩
  replace hS := hS.n1
  refine zlv xas ?_
  refine zlt <| zsq <| zsr ?_
  refine zlv xas ?_
  refine zlt <| zbk <| zlp (fun mm M w => ∃ (i : Int), mm = ((p.m - i).toNat) ∧ (0 ≤ i) ∧ (i ≤ p.m) ∧ (∀ k, 0 ≤ k → k < i → p.ln k ≤ 20) ∧ M = [(1, .pointer (some ⟨g1, 0, none⟩)), (3, .int .i64 i)] ∧ Sat w0 w [.blk g1 [vc, vA, vb]]) ⟨0, rfl, (by omega), (by omega), ?_, rfl, hS⟩ ?_
  ·
   intro k k0 k1; omega
  clear hS w
  rintro mm M w ⟨i, rfl, h0, h1, hall, rfl, hS⟩
  refine zsq <| zsr ?_
  refine zlv xmv ?_
  refine zlv (xfb 1 fd_44_1) ?_
  refine zlv (xlb 0 pl_23 hS) ?_
  refine zlv (xln sl_23 hL.A.row.slh) ?_
  refine zlv xlss ?_
  refine zlt ?_
  refine zcif ?_ ?_ <;> intro hc
  ·
   refine zsk <| ztn <| zsq <| zbk <| zsr ?_
   refine zlv (xfb 1 fd_44_1) ?_
   refine zlv (xlb 0 pl_23 hS) ?_
   refine zlv xmv ?_
   refine zlv (xix (kk := i) sl_23 hL.A.row.slh) ?_
   refine zlv (xlr (u := (vq i)) pl_22 (hL.A.row.below hS.below)) ?_
   refine zlv (xln sl_22 (hL.A.p i (by omega) (by omega)).slh) ?_
   refine zlv xgtr ?_
   refine zlt ?_
   refine zcif ?_ ?_ <;> intro hc
   ·
    refine zsr ?_
    refine zlv xas ?_
    refine zlt <| zrt <| zbr <| ztr <| ztr <| zbr <| ztr <| zf1 ⟨_, rfl, ?_⟩
    exact ⟨false_B (by rintro ⟨h1, h2, h3, h4⟩; first | omega | (have := h1 i h0 (by omega); omega)), hS.nl⟩
   refine zsk <| zbn <| ztn <| zrg ?_
   refine zlv xmv ?_
   refine zlv (xadd (r := i + 1)) ?_
   refine zlv xas ?_
   refine zln <| zlq ⟨i + 1, rfl, (by omega), (by omega), ?_, rfl, hS⟩
   ·
    intro k h0' h1'; rcases Int.lt_or_eq_of_le (show k ≤ i by omega) with hk | hk; exact hall k h0' hk; rw [hk]; omega
  refine zxt <| ztx <| ztx <| zbh <| ztn <| zsr ?_
  refine zlv (xfb 0 fd_44_0) ?_
  refine zlv (xlb 0 pl_22 hS) ?_
  refine zlv (xln sl_22 hL.c.slh) ?_
  refine zs2 ?_
  refine zlb 22 ?_ ?_ <;> intro hc
  ·
   refine zlv (xfb 1 fd_44_1) ?_
   refine zlv (xlb 0 pl_23 hS) ?_
   refine zlv (xln sl_23 hL.A.row.slh) ?_
   refine zs3 ?_
   refine zlb 28 ?_ ?_ <;> intro hc
   ·
    refine zlv (xfb 2 fd_44_2) ?_
    refine zlv (xlb 0 pl_22 hS) ?_
    refine zlv (xln sl_22 hL.b.slh) ?_
    refine zs3 ?_
    refine zlt <| zrt <| zf1 ⟨_, rfl, ?_⟩
    exact ⟨B_congr ⟨fun hx => ⟨fun k k0 k1 => hall k k0 (by omega), by omega, by omega, by omega⟩, fun h => by have h1 := h.2.1; have h2 := h.2.2.1; have h3 := h.2.2.2; omega⟩, hS.nl⟩
   iterate 4 refine zlo ?_
   refine zs2 ?_
   refine zlt <| zrt <| zf1 ⟨_, rfl, ?_⟩
   exact ⟨false_B (by rintro ⟨h1, h2, h3, h4⟩; first | omega | (have := h1 i h0 (by omega); omega)), hS.nl⟩
  iterate 4 refine zlo ?_
  refine zs2 ?_
  iterate 4 refine zlo ?_
  refine zs2 ?_
  refine zlt <| zrt <| zf1 ⟨_, rfl, ?_⟩
  exact ⟨false_B (by rintro ⟨h1, h2, h3, h4⟩; first | omega | (have := h1 i h0 (by omega); omega)), hS.nl⟩

set_option maxRecDepth 20000 in
theorem c_rvalid {vc vA vb : Value} {vq : Int → Value} {p : Lp} (w0 : World) (hL : LAt w0 vc vA vb vq p) :
    Calls Try.prog 25 [.agg #[vc, vA, vb]].toArray w0 fun e w => ∃ v, e = .returned v ∧ v = B (LOk p) ∧ Sat w0 w [] := by
  have hn := hL.c.slh.n0; have hn1 := hL.c.slh.n1; have hm := hL.A.row.slh.n0; have hm1 := hL.A.row.slh.n1; have hk := hL.b.slh.n0; have hk1 := hL.b.slh.n1
  refine zenG Try.func25 Try.ntmps25 fun w hS => ?_
  refine zsr ?_
  refine zla (xbx (cs := [_, _, _]) hS) ?_; rintro _ w ⟨g1, rfl, hS⟩
  replace hS := hS.n1
  refine zlv xas ?_
  refine zlt <| zsq <| zsr ?_
  refine zlv xas ?_
  refine zlt <| zbk <| zlp (fun mm M w => ∃ (i : Int), mm = ((p.m - i).toNat) ∧ (0 ≤ i) ∧ (i ≤ p.m) ∧ (∀ k, 0 ≤ k → k < i → p.ln k = p.n ∧ ∀ j, 0 ≤ j → j < p.n → -1000000 ≤ p.A k j ∧ p.A k j ≤ 1000000) ∧ M = [(1, .pointer (some ⟨g1, 0, none⟩)), (3, .int .i64 i)] ∧ Sat w0 w [.blk g1 [vc, vA, vb]]) ⟨0, rfl, (by omega), (by omega), ?_, rfl, hS⟩ ?_
  ·
   intro k k0 k1; omega
  clear hS w
  rintro mm M w ⟨i, rfl, h0, h1, hall, rfl, hS⟩
  refine zsq <| zsr ?_
  refine zlv xmv ?_
  refine zlv (xfb 1 fd_44_1) ?_
  refine zlv (xlb 0 pl_23 hS) ?_
  refine zlv (xln sl_23 hL.A.row.slh) ?_
  refine zlv xlss ?_
  refine zlt ?_
  refine zcif ?_ ?_ <;> intro hc
  ·
   refine zsk <| ztn <| zsq <| zbk <| zsq ?_
   refine zdst [0] [0] 1000 mx_ hS ?_; clear hS; intro w hS
   refine zdv 0 (fun _ => (xfb 1 fd_44_1)) ?_
   refine zdla 1 (fun w hS => (xlb 0 pl_23 hS)) ?_
   refine zdv 2 (fun _ => xmv) ?_
   refine zdv 3 (fun _ => (xix (kk := i) sl_23 hL.A.row.slh)) ?_
   refine zdla 4 (fun w hS => (xlr (u := (vq i)) pl_22 (hL.A.row.below hS.below))) ?_
   refine zdv 5 (fun _ => (xln sl_22 (hL.A.p i (by omega) (by omega)).slh)) ?_
   refine zdv 6 (fun _ => (xfb 0 fd_44_0)) ?_
   refine zdla 7 (fun w hS => (xlb 0 pl_22 hS)) ?_
   refine zdv 8 (fun _ => (xln sl_22 hL.c.slh)) ?_
   refine zdv 9 (fun _ => xneq) ?_
   refine zdv 10 (fun _ => xmv) ?_
   refine zdb 21 ?_ ?_ <;> intro hc
   ·
    refine zdof 11 ?_
    refine zdof 12 ?_
    refine zdof 13 ?_
    refine zdof 14 ?_
    refine zdof 15 ?_
    refine zdof 16 ?_
    refine zdof 17 ?_
    refine zdv 18 (fun _ => xpt) ?_
    refine zdd <| ztn <| zct <| zsr ?_
    refine zlv xas ?_
    refine zlt <| zrt <| zbr <| ztr <| ztr <| zbr <| ztr <| zf1 ⟨_, rfl, ?_⟩
    exact ⟨false_B (by intro hl; have b1 := hl.n1; have b2 := hl.n2; have b3 := hl.m2; have b4 := hl.k; first | omega | exact absurd (fun j j0 j1 => by have := hl.c j j0 j1; omega) ‹¬ ∀ k, 0 ≤ k → k < p.n → 0 ≤ p.c k ∧ p.c k ≤ 1000000› | (have := (hl.rows i h0 (by omega)).1; omega) | exact absurd (fun j j0 j1 => (hl.rows i h0 (by omega)).2 j j0 (by have := (hl.rows i h0 (by omega)).1; omega)) ‹¬ ∀ k, 0 ≤ k → k < p.ln i → -1000000 ≤ p.A i k ∧ p.A i k ≤ 1000000›), hS.nl⟩
   refine zdv 11 (fun _ => (xfb 1 fd_44_1)) ?_
   refine zdla 12 (fun w hS => (xlb 0 pl_23 hS)) ?_
   refine zdv 13 (fun _ => xmv) ?_
   refine zdv 14 (fun _ => (xix (kk := i) sl_23 hL.A.row.slh)) ?_
   refine zdla 15 (fun w hS => (xlr (u := (vq i)) pl_22 (hL.A.row.below hS.below))) ?_
   refine zdc 16 (xc0 cl_68) (c_within (n := (p.ln i)) (lo := (-1000000)) (hi := 1000000) (f := (p.A i)) w ((hL.A.p i (by omega) (by omega)).below hS.below)) ?_; rintro _ w ⟨rfl, hS'⟩
   replace hS := hS.cmp hS'; clear hS'
   refine ⟨⟨fun _ => hS, hS⟩, ?_⟩
   refine zdv 17 (fun _ => xnot) ?_
   refine zdv 18 (fun _ => xpf) ?_
   refine zdd <| ztn ?_
   refine zcif ?_ ?_ <;> intro hc
   ·
    refine zsr ?_
    refine zlv xas ?_
    refine zlt <| zrt <| zbr <| ztr <| ztr <| zbr <| ztr <| zf1 ⟨_, rfl, ?_⟩
    exact ⟨false_B (by intro hl; have b1 := hl.n1; have b2 := hl.n2; have b3 := hl.m2; have b4 := hl.k; first | omega | exact absurd (fun j j0 j1 => by have := hl.c j j0 j1; omega) ‹¬ ∀ k, 0 ≤ k → k < p.n → 0 ≤ p.c k ∧ p.c k ≤ 1000000› | (have := (hl.rows i h0 (by omega)).1; omega) | exact absurd (fun j j0 j1 => (hl.rows i h0 (by omega)).2 j j0 (by have := (hl.rows i h0 (by omega)).1; omega)) ‹¬ ∀ k, 0 ≤ k → k < p.ln i → -1000000 ≤ p.A i k ∧ p.A i k ≤ 1000000›), hS.nl⟩
   refine zsk <| zbn <| ztn <| zrg ?_
   refine zlv xmv ?_
   refine zlv (xadd (r := i + 1)) ?_
   refine zlv xas ?_
   refine zln <| zlq ⟨i + 1, rfl, (by omega), (by omega), ?_, rfl, hS⟩
   ·
    have hq : ∀ k, 0 ≤ k → k < p.ln i → -1000000 ≤ p.A i k ∧ p.A i k ≤ 1000000 := by first | assumption | exact Classical.not_not.1 ‹_›
    intro k h0' h1'; rcases Int.lt_or_eq_of_le (show k ≤ i by omega) with hk | hk; exact hall k h0' hk; rw [hk]; exact ⟨by omega, fun j j0 j1 => hq j j0 (by omega)⟩
  refine zxt <| ztx <| ztx <| zbh <| ztn <| zsr ?_
  refine zlv (xfb 0 fd_44_0) ?_
  refine zlv (xlb 0 pl_22 hS) ?_
  refine zlv (xln sl_22 hL.c.slh) ?_
  refine zs2 ?_
  refine zlb 34 ?_ ?_ <;> intro hc
  ·
   refine zlv (xfb 0 fd_44_0) ?_
   refine zlv (xlb 0 pl_22 hS) ?_
   refine zlv (xln sl_22 hL.c.slh) ?_
   refine zs3 ?_
   refine zlb 40 ?_ ?_ <;> intro hc
   ·
    refine zlv (xfb 1 fd_44_1) ?_
    refine zlv (xlb 0 pl_23 hS) ?_
    refine zlv (xln sl_23 hL.A.row.slh) ?_
    refine zs3 ?_
    refine zlb 46 ?_ ?_ <;> intro hc
    ·
     refine zlv (xfb 2 fd_44_2) ?_
     refine zlv (xlb 0 pl_22 hS) ?_
     refine zlv (xln sl_22 hL.b.slh) ?_
     refine zlv (xfb 1 fd_44_1) ?_
     refine zlv (xlb 0 pl_23 hS) ?_
     refine zlv (xln sl_23 hL.A.row.slh) ?_
     refine zs3 ?_
     refine zlb 55 ?_ ?_ <;> intro hc
     ·
      refine zlv (xfb 0 fd_44_0) ?_
      refine zlv (xlb 0 pl_22 hS) ?_
      refine zlc (xc0 cl_68) (c_within (n := p.n) (lo := 0) (hi := 1000000) (f := p.c) w (hL.c.below hS.below)) ?_; rintro _ w ⟨rfl, hS'⟩
      replace hS := hS.cmp hS'; clear hS'
      refine zs2 ?_
      refine zlb 60 ?_ ?_ <;> intro hc
      ·
       refine zlv (xfb 2 fd_44_2) ?_
       refine zlv (xlb 0 pl_22 hS) ?_
       refine zlc (xc0 cl_68) (c_within (n := p.k) (lo := (-1000000)) (hi := 1000000) (f := p.b) w (hL.b.below hS.below)) ?_; rintro _ w ⟨rfl, hS'⟩
       replace hS := hS.cmp hS'; clear hS'
       refine zs2 ?_
       refine zlt <| zrt <| zf1 ⟨_, rfl, ?_⟩
       exact ⟨B_congr ⟨fun hx => ⟨by omega, by omega, by omega, by omega, ‹∀ k, 0 ≤ k → k < p.n → 0 ≤ p.c k ∧ p.c k ≤ 1000000›, fun k k0 k1 => hx k k0 (by omega), fun k k0 k1 => hall k k0 (by omega)⟩, fun hl k k0 k1 => hl.b k k0 (by have := hl.k; omega)⟩, hS.nl⟩
      iterate 3 refine zlo ?_
      refine zs2 ?_
      refine zlt <| zrt <| zf1 ⟨_, rfl, ?_⟩
      exact ⟨false_B (by intro hl; have b1 := hl.n1; have b2 := hl.n2; have b3 := hl.m2; have b4 := hl.k; first | omega | exact absurd (fun j j0 j1 => by have := hl.c j j0 j1; omega) ‹¬ ∀ k, 0 ≤ k → k < p.n → 0 ≤ p.c k ∧ p.c k ≤ 1000000› | (have := (hl.rows i h0 (by omega)).1; omega) | exact absurd (fun j j0 j1 => (hl.rows i h0 (by omega)).2 j j0 (by have := (hl.rows i h0 (by omega)).1; omega)) ‹¬ ∀ k, 0 ≤ k → k < p.ln i → -1000000 ≤ p.A i k ∧ p.A i k ≤ 1000000›), hS.nl⟩
     iterate 3 refine zlo ?_
     refine zs2 ?_
     iterate 3 refine zlo ?_
     refine zs2 ?_
     refine zlt <| zrt <| zf1 ⟨_, rfl, ?_⟩
     exact ⟨false_B (by intro hl; have b1 := hl.n1; have b2 := hl.n2; have b3 := hl.m2; have b4 := hl.k; first | omega | exact absurd (fun j j0 j1 => by have := hl.c j j0 j1; omega) ‹¬ ∀ k, 0 ≤ k → k < p.n → 0 ≤ p.c k ∧ p.c k ≤ 1000000› | (have := (hl.rows i h0 (by omega)).1; omega) | exact absurd (fun j j0 j1 => (hl.rows i h0 (by omega)).2 j j0 (by have := (hl.rows i h0 (by omega)).1; omega)) ‹¬ ∀ k, 0 ≤ k → k < p.ln i → -1000000 ≤ p.A i k ∧ p.A i k ≤ 1000000›), hS.nl⟩
    iterate 7 refine zlo ?_
    refine zs2 ?_
    iterate 3 refine zlo ?_
    refine zs2 ?_
    iterate 3 refine zlo ?_
    refine zs2 ?_
    refine zlt <| zrt <| zf1 ⟨_, rfl, ?_⟩
    exact ⟨false_B (by intro hl; have b1 := hl.n1; have b2 := hl.n2; have b3 := hl.m2; have b4 := hl.k; first | omega | exact absurd (fun j j0 j1 => by have := hl.c j j0 j1; omega) ‹¬ ∀ k, 0 ≤ k → k < p.n → 0 ≤ p.c k ∧ p.c k ≤ 1000000› | (have := (hl.rows i h0 (by omega)).1; omega) | exact absurd (fun j j0 j1 => (hl.rows i h0 (by omega)).2 j j0 (by have := (hl.rows i h0 (by omega)).1; omega)) ‹¬ ∀ k, 0 ≤ k → k < p.ln i → -1000000 ≤ p.A i k ∧ p.A i k ≤ 1000000›), hS.nl⟩
   iterate 4 refine zlo ?_
   refine zs2 ?_
   iterate 7 refine zlo ?_
   refine zs2 ?_
   iterate 3 refine zlo ?_
   refine zs2 ?_
   iterate 3 refine zlo ?_
   refine zs2 ?_
   refine zlt <| zrt <| zf1 ⟨_, rfl, ?_⟩
   exact ⟨false_B (by intro hl; have b1 := hl.n1; have b2 := hl.n2; have b3 := hl.m2; have b4 := hl.k; first | omega | exact absurd (fun j j0 j1 => by have := hl.c j j0 j1; omega) ‹¬ ∀ k, 0 ≤ k → k < p.n → 0 ≤ p.c k ∧ p.c k ≤ 1000000› | (have := (hl.rows i h0 (by omega)).1; omega) | exact absurd (fun j j0 j1 => (hl.rows i h0 (by omega)).2 j j0 (by have := (hl.rows i h0 (by omega)).1; omega)) ‹¬ ∀ k, 0 ≤ k → k < p.ln i → -1000000 ≤ p.A i k ∧ p.A i k ≤ 1000000›), hS.nl⟩
  iterate 4 refine zlo ?_
  refine zs2 ?_
  iterate 4 refine zlo ?_
  refine zs2 ?_
  iterate 7 refine zlo ?_
  refine zs2 ?_
  iterate 3 refine zlo ?_
  refine zs2 ?_
  iterate 3 refine zlo ?_
  refine zs2 ?_
  refine zlt <| zrt <| zf1 ⟨_, rfl, ?_⟩
  exact ⟨false_B (by intro hl; have b1 := hl.n1; have b2 := hl.n2; have b3 := hl.m2; have b4 := hl.k; first | omega | exact absurd (fun j j0 j1 => by have := hl.c j j0 j1; omega) ‹¬ ∀ k, 0 ≤ k → k < p.n → 0 ≤ p.c k ∧ p.c k ≤ 1000000› | (have := (hl.rows i h0 (by omega)).1; omega) | exact absurd (fun j j0 j1 => (hl.rows i h0 (by omega)).2 j j0 (by have := (hl.rows i h0 (by omega)).1; omega)) ‹¬ ∀ k, 0 ≤ k → k < p.ln i → -1000000 ≤ p.A i k ∧ p.A i k ≤ 1000000›), hS.nl⟩

set_option maxRecDepth 20000 in
theorem c_same0 {va vb : Value} {n m : Int} {f g : Int → Int} (w0 : World) (hA : Row w0 va 1 n (ints f)) (hB2 : Row w0 vb 1 m (ints g)) :
    Calls Try.prog 22 [va, vb].toArray w0 fun e w => ∃ v, e = .returned v ∧ v = B (n = m ∧ ∀ k, 0 ≤ k → k < n → f k = g k) ∧ Sat w0 w [] := by
  have hn := hA.slh.n0; have hm1 := hB2.slh.n1; have hn1 := hA.slh.n1
  refine zenG Try.func22 Try.ntmps22 fun w hS => ?_
  refine zsr ?_
  refine zlv xas ?_
  refine zlt <| zsq <| zsr ?_
  refine zlv xmv ?_
  refine zlv (xln sl_22 hA.slh) ?_
  refine zlv xmv ?_
  refine zlv (xln sl_22 hB2.slh) ?_
  refine zlv xneq ?_
  refine zlt ?_
  refine zcif ?_ ?_ <;> intro hc
  ·
   refine zsr ?_
   refine zlv xas ?_
   refine zlt <| zrt <| ztr <| zf1 ⟨_, rfl, ?_⟩
   exact ⟨false_B (by rintro ⟨h1, h2⟩; first | omega | exact absurd (h2 i h0 (by omega)) (by omega)), hS⟩
  refine zsk <| ztn <| zsq <| zsr ?_
  refine zlv xas ?_
  refine zlt <| zbk <| zlp (fun mm M w => ∃ (i : Int), mm = ((n - i).toNat) ∧ (0 ≤ i) ∧ (i ≤ n) ∧ (∀ k, 0 ≤ k → k < i → f k = g k) ∧ M = [(0, va), (1, vb), (5, .int .i64 i)] ∧ Sat w0 w []) ⟨0, rfl, (by omega), (by omega), ?_, rfl, hS⟩ ?_
  ·
   intro k h0 h1; omega
  clear hS w
  rintro mm M w ⟨i, rfl, h0, h1, hall, rfl, hS⟩
  refine zsq <| zsr ?_
  refine zs2 ?_
  refine zlv (xln sl_22 hA.slh) ?_
  refine zlv xlss ?_
  refine zlt ?_
  refine zcif ?_ ?_ <;> intro hc
  ·
   refine zsk <| ztn <| zsq <| zbk <| zsq ?_
   refine zdst [] [] 1000 mx_ hS ?_; clear hS; intro w hS
   refine zdv 0 (fun _ => xmv) ?_
   refine zdv 1 (fun _ => xmv) ?_
   refine zdv 2 (fun _ => (xix (kk := i) sl_22 hA.slh)) ?_
   refine zdla 3 (fun w hS => (xlr (u := .int .i64 (f i)) pl_3 (hA.below hS.below))) ?_
   refine zdv 4 (fun _ => xmv) ?_
   refine zdv 5 (fun _ => xmv) ?_
   refine zdv 6 (fun _ => (xix (kk := i) sl_22 hB2.slh)) ?_
   refine zdla 7 (fun w hS => (xlr (u := .int .i64 (g i)) pl_3 (hB2.below hS.below))) ?_
   refine zdv 8 (fun _ => xneq) ?_
   refine zdd <| ztn ?_
   refine zcif ?_ ?_ <;> intro hc
   ·
    refine zsr ?_
    refine zlv xas ?_
    refine zlt <| zrt <| zbr <| ztr <| ztr <| zbr <| ztr <| zf1 ⟨_, rfl, ?_⟩
    exact ⟨false_B (by rintro ⟨h1, h2⟩; first | omega | exact absurd (h2 i h0 (by omega)) (by omega)), hS⟩
   refine zsk <| zbn <| ztn <| zrg ?_
   refine zlv xmv ?_
   refine zlv (xadd (r := i + 1)) ?_
   refine zlv xas ?_
   refine zln <| zlq ⟨i + 1, rfl, (by omega), (by omega), ?_, rfl, hS⟩
   ·
    intro k h0' h1'; rcases Int.lt_or_eq_of_le (show k ≤ i by omega) with hk | hk; exact hall k h0' hk; rw [hk]; omega
  refine zxt <| ztx <| ztx <| zbh <| ztn <| zsr ?_
  refine zlv xas ?_
  refine zlt <| zrt <| zf1 ⟨_, rfl, ?_⟩
  exact ⟨true_B ⟨by omega, fun k k0 k1 => hall k k0 (by omega)⟩, hS⟩

def SameT (t u : Tb) : Prop := t.vars = u.vars ∧ t.den = u.den ∧ (t.nb = u.nb ∧ ∀ k, 0 ≤ k → k < t.nb → t.B k = u.B k) ∧ (t.nf = u.nf ∧ ∀ k, 0 ≤ k → k < t.nf → t.F k = u.F k) ∧ t.nc = u.nc ∧ ∀ i, 0 ≤ i → i < t.nc → (t.ln i) = (u.ln i) ∧ ∀ j, 0 ≤ j → j < (t.ln i) → (t.C i) j = (u.C i) j

set_option maxRecDepth 20000 in
theorem c_samet {vB vF vC : Value} {vv : Int → Value} {t : Tb} {xB xF xC : Value} {xv : Int → Value} {u : Tb} (w0 : World) (hT : TAt w0 vB vF vC vv t) (hU : TAt w0 xB xF xC xv u) :
    Calls Try.prog 67 [.agg #[.int .i64 t.vars, .int .i64 t.den, vB, vF, vC], .agg #[.int .i64 u.vars, .int .i64 u.den, xB, xF, xC]].toArray w0 fun e w => ∃ v, e = .returned v ∧ v = B (SameT t u) ∧ Sat w0 w [] := by
  have hn := hT.F.slh.n0; have hn1 := hT.F.slh.n1; have hb := hT.B.slh.n0; have hb1 := hT.B.slh.n1; have hc0 := hT.C.row.slh.n0; have hc1 := hT.C.row.slh.n1; have hcu := hU.C.row.slh.n1
  refine zenG Try.func67 Try.ntmps67 fun w hS => ?_
  refine zsr ?_
  refine zla (xbx (cs := [_, _, _, _, _]) hS) ?_; rintro _ w ⟨g1, rfl, hS⟩
  replace hS := hS.n1
  refine zla (xbx (cs := [_, _, _, _, _]) hS) ?_; rintro _ w ⟨g2, rfl, hS⟩
  replace hS := hS.n2
  refine zlv xas ?_
  refine zlt <| zsq <| zsr ?_
  refine zlv (xfb 0 fd_25_0) ?_
  refine zlv (xlb 0 pl_3 hS) ?_
  refine zlv (xfb 0 fd_25_0) ?_
  refine zlv (xlb 1 pl_3 hS) ?_
  refine zs2 ?_
  refine zlb 11 ?_ ?_ <;> intro hc
  ·
   iterate 5 refine zlo ?_
   refine zs2 ?_
   iterate 6 refine zlo ?_
   refine zs2 ?_
   iterate 6 refine zlo ?_
   refine zs2 ?_
   iterate 7 refine zlo ?_
   refine zlv xpt ?_
   refine zlt <| zct <| zsr ?_
   refine zlv xas ?_
   refine zlt <| zrt <| ztr <| zf1 ⟨_, rfl, ?_⟩
   exact ⟨false_B (by rintro ⟨h1, h2, h3, h4, h5, h6⟩; first | omega | exact absurd h3 ‹¬ (t.nb = u.nb ∧ ∀ k, 0 ≤ k → k < t.nb → t.B k = u.B k)› | exact absurd h4 ‹¬ (t.nf = u.nf ∧ ∀ k, 0 ≤ k → k < t.nf → t.F k = u.F k)› | exact absurd (h6 i h0 (by omega)) ‹¬ ((t.ln i) = (u.ln i) ∧ ∀ k, 0 ≤ k → k < (t.ln i) → (t.C i) k = (u.C i) k)›), hS.nl⟩
  refine zlv (xfb 1 fd_25_1) ?_
  refine zlv (xlb 0 pl_3 hS) ?_
  refine zlv (xfb 1 fd_25_1) ?_
  refine zlv (xlb 1 pl_3 hS) ?_
  refine zs3 ?_
  refine zlb 18 ?_ ?_ <;> intro hc
  ·
   iterate 6 refine zlo ?_
   refine zs2 ?_
   iterate 6 refine zlo ?_
   refine zs2 ?_
   iterate 7 refine zlo ?_
   refine zlv xpt ?_
   refine zlt <| zct <| zsr ?_
   refine zlv xas ?_
   refine zlt <| zrt <| ztr <| zf1 ⟨_, rfl, ?_⟩
   exact ⟨false_B (by rintro ⟨h1, h2, h3, h4, h5, h6⟩; first | omega | exact absurd h3 ‹¬ (t.nb = u.nb ∧ ∀ k, 0 ≤ k → k < t.nb → t.B k = u.B k)› | exact absurd h4 ‹¬ (t.nf = u.nf ∧ ∀ k, 0 ≤ k → k < t.nf → t.F k = u.F k)› | exact absurd (h6 i h0 (by omega)) ‹¬ ((t.ln i) = (u.ln i) ∧ ∀ k, 0 ≤ k → k < (t.ln i) → (t.C i) k = (u.C i) k)›), hS.nl⟩
  refine zlv (xfb 2 fd_25_2) ?_
  refine zlv (xlb 0 pl_22 hS) ?_
  refine zlv (xfb 2 fd_25_2) ?_
  refine zlv (xlb 1 pl_22 hS) ?_
  refine zlc (xc0 cl_22) (c_same0 (n := t.nb) (m := u.nb) (f := t.B) (g := u.B) w (hT.B.below hS.below) (hU.B.below hS.below)) ?_; rintro _ w ⟨rfl, hS'⟩
  replace hS := hS.cmp hS'; clear hS'
  refine zs3 ?_
  refine zlb 26 ?_ ?_ <;> intro hc
  ·
   iterate 6 refine zlo ?_
   refine zs2 ?_
   iterate 7 refine zlo ?_
   refine zlv xpt ?_
   refine zlt <| zct <| zsr ?_
   refine zlv xas ?_
   refine zlt <| zrt <| ztr <| zf1 ⟨_, rfl, ?_⟩
   exact ⟨false_B (by rintro ⟨h1, h2, h3, h4, h5, h6⟩; first | omega | exact absurd h3 ‹¬ (t.nb = u.nb ∧ ∀ k, 0 ≤ k → k < t.nb → t.B k = u.B k)› | exact absurd h4 ‹¬ (t.nf = u.nf ∧ ∀ k, 0 ≤ k → k < t.nf → t.F k = u.F k)› | exact absurd (h6 i h0 (by omega)) ‹¬ ((t.ln i) = (u.ln i) ∧ ∀ k, 0 ≤ k → k < (t.ln i) → (t.C i) k = (u.C i) k)›), hS.nl⟩
  refine zlv (xfb 3 fd_25_3) ?_
  refine zlv (xlb 0 pl_22 hS) ?_
  refine zlv (xfb 3 fd_25_3) ?_
  refine zlv (xlb 1 pl_22 hS) ?_
  refine zlc (xc0 cl_22) (c_same0 (n := t.nf) (m := u.nf) (f := t.F) (g := u.F) w (hT.F.below hS.below) (hU.F.below hS.below)) ?_; rintro _ w ⟨rfl, hS'⟩
  replace hS := hS.cmp hS'; clear hS'
  refine zs3 ?_
  refine zlb 34 ?_ ?_ <;> intro hc
  ·
   iterate 7 refine zlo ?_
   refine zlv xpt ?_
   refine zlt <| zct <| zsr ?_
   refine zlv xas ?_
   refine zlt <| zrt <| ztr <| zf1 ⟨_, rfl, ?_⟩
   exact ⟨false_B (by rintro ⟨h1, h2, h3, h4, h5, h6⟩; first | omega | exact absurd h3 ‹¬ (t.nb = u.nb ∧ ∀ k, 0 ≤ k → k < t.nb → t.B k = u.B k)› | exact absurd h4 ‹¬ (t.nf = u.nf ∧ ∀ k, 0 ≤ k → k < t.nf → t.F k = u.F k)› | exact absurd (h6 i h0 (by omega)) ‹¬ ((t.ln i) = (u.ln i) ∧ ∀ k, 0 ≤ k → k < (t.ln i) → (t.C i) k = (u.C i) k)›), hS.nl⟩
  refine zlv (xfb 4 fd_25_4) ?_
  refine zlv (xlb 0 pl_23 hS) ?_
  refine zlv (xln sl_23 hT.C.row.slh) ?_
  refine zlv (xfb 4 fd_25_4) ?_
  refine zlv (xlb 1 pl_23 hS) ?_
  refine zlv (xln sl_23 hU.C.row.slh) ?_
  refine zs2 ?_
  refine zlt ?_
  refine zcif ?_ ?_ <;> intro hc
  ·
   refine zsr ?_
   refine zlv xas ?_
   refine zlt <| zrt <| ztr <| zf1 ⟨_, rfl, ?_⟩
   exact ⟨false_B (by rintro ⟨h1, h2, h3, h4, h5, h6⟩; first | omega | exact absurd h3 ‹¬ (t.nb = u.nb ∧ ∀ k, 0 ≤ k → k < t.nb → t.B k = u.B k)› | exact absurd h4 ‹¬ (t.nf = u.nf ∧ ∀ k, 0 ≤ k → k < t.nf → t.F k = u.F k)› | exact absurd (h6 i h0 (by omega)) ‹¬ ((t.ln i) = (u.ln i) ∧ ∀ k, 0 ≤ k → k < (t.ln i) → (t.C i) k = (u.C i) k)›), hS.nl⟩
  refine zsk <| ztn <| zsq <| zsr ?_
  refine zlv xas ?_
  refine zlt <| zbk <| zlp (fun mm M w => ∃ (i : Int), mm = ((t.nc - i).toNat) ∧ (0 ≤ i) ∧ (i ≤ t.nc) ∧ (∀ k, 0 ≤ k → k < i → (t.ln k) = (u.ln k) ∧ ∀ j, 0 ≤ j → j < (t.ln k) → (t.C k) j = (u.C k) j) ∧ M = [(2, .pointer (some ⟨g1, 0, none⟩)), (3, .pointer (some ⟨g2, 0, none⟩)), (5, .int .i64 i)] ∧ Sat w0 w [.blk g1 [.int .i64 t.vars, .int .i64 t.den, vB, vF, vC], .blk g2 [.int .i64 u.vars, .int .i64 u.den, xB, xF, xC]]) ⟨0, rfl, (by omega), (by omega), ?_, rfl, hS⟩ ?_
  ·
   intro k h0 h1; omega
  clear hS w
  rintro mm M w ⟨i, rfl, h0, h1, hall, rfl, hS⟩
  refine zsq <| zsr ?_
  refine zlv xmv ?_
  refine zlv (xfb 4 fd_25_4) ?_
  refine zlv (xlb 0 pl_23 hS) ?_
  refine zlv (xln sl_23 hT.C.row.slh) ?_
  refine zlv xlss ?_
  refine zlt ?_
  refine zcif ?_ ?_ <;> intro hc
  ·
   refine zsk <| ztn <| zsq <| zbk <| zsq ?_
   refine zdst [0, 1] [0, 1] 1000 mx_ hS ?_; clear hS; intro w hS
   refine zdv 0 (fun _ => (xfb 4 fd_25_4)) ?_
   refine zdla 1 (fun w hS => (xlb 0 pl_23 hS)) ?_
   refine zdv 2 (fun _ => xmv) ?_
   refine zdv 3 (fun _ => (xix (kk := i) sl_23 hT.C.row.slh)) ?_
   refine zdla 4 (fun w hS => (xlr (u := (vv i)) pl_22 (hT.C.row.below hS.below))) ?_
   refine zdv 5 (fun _ => (xfb 4 fd_25_4)) ?_
   refine zdla 6 (fun w hS => (xlb 1 pl_23 hS)) ?_
   refine zdv 7 (fun _ => xmv) ?_
   refine zdv 8 (fun _ => (xix (kk := i) sl_23 hU.C.row.slh)) ?_
   refine zdla 9 (fun w hS => (xlr (u := (xv i)) pl_22 (hU.C.row.below hS.below))) ?_
   refine zdc 10 (xc0 cl_22) (c_same0 (n := (t.ln i)) (m := (u.ln i)) (f := (t.C i)) (g := (u.C i)) w ((hT.C.p i (by omega) (by omega)).below hS.below) ((hU.C.p i (by omega) (by omega)).below hS.below)) ?_; rintro _ w ⟨rfl, hS'⟩
   replace hS := hS.cmp hS'; clear hS'
   refine ⟨⟨fun _ => hS, hS⟩, ?_⟩
   refine zdv 11 (fun _ => xnot) ?_
   refine zdd <| ztn ?_
   refine zcif ?_ ?_ <;> intro hc
   ·
    refine zsr ?_
    refine zlv xas ?_
    refine zlt <| zrt <| zbr <| ztr <| ztr <| zbr <| ztr <| zf1 ⟨_, rfl, ?_⟩
    exact ⟨false_B (by rintro ⟨h1, h2, h3, h4, h5, h6⟩; first | omega | exact absurd h3 ‹¬ (t.nb = u.nb ∧ ∀ k, 0 ≤ k → k < t.nb → t.B k = u.B k)› | exact absurd h4 ‹¬ (t.nf = u.nf ∧ ∀ k, 0 ≤ k → k < t.nf → t.F k = u.F k)› | exact absurd (h6 i h0 (by omega)) ‹¬ ((t.ln i) = (u.ln i) ∧ ∀ k, 0 ≤ k → k < (t.ln i) → (t.C i) k = (u.C i) k)›), hS.nl⟩
   refine zsk <| zbn <| ztn <| zrg ?_
   refine zlv xmv ?_
   refine zlv (xadd (r := i + 1)) ?_
   refine zlv xas ?_
   refine zln <| zlq ⟨i + 1, rfl, (by omega), (by omega), ?_, rfl, hS⟩
   ·
    have hq : (t.ln i) = (u.ln i) ∧ ∀ j, 0 ≤ j → j < (t.ln i) → (t.C i) j = (u.C i) j := by first | assumption | exact Classical.not_not.1 ‹_›
    intro k h0' h1'; rcases Int.lt_or_eq_of_le (show k ≤ i by omega) with hk | hk; exact hall k h0' hk; rw [hk]; exact hq
  refine zxt <| ztx <| ztx <| zbh <| ztn <| zsr ?_
  refine zlv xas ?_
  refine zlt <| zrt <| zf1 ⟨_, rfl, ?_⟩
  exact ⟨true_B ⟨by omega, by omega, by first | assumption | exact Classical.not_not.1 ‹¬ ¬ (t.nb = u.nb ∧ ∀ k, 0 ≤ k → k < t.nb → t.B k = u.B k)›, by first | assumption | exact Classical.not_not.1 ‹¬ ¬ (t.nf = u.nf ∧ ∀ k, 0 ≤ k → k < t.nf → t.F k = u.F k)›, by omega, fun k k0 k1 => hall k k0 (by omega)⟩, hS.nl⟩

def LitP (t : Tb) : Prop := (∀ k, 0 ≤ k → k < t.nc → t.ln k ≤ 20) ∧ t.nf ≤ 12 ∧ t.nb ≤ 8 ∧ t.nc ≤ 20

set_option maxRecDepth 20000 in
theorem c_little {vB vF vC : Value} {vv : Int → Value} {t : Tb} (w0 : World) (hT : TAt w0 vB vF vC vv t) :
    Calls Try.prog 15 [.agg #[.int .i64 t.vars, .int .i64 t.den, vB, vF, vC]].toArray w0 fun e w => ∃ v, e = .returned v ∧ v = B (LitP t) ∧ Sat w0 w [] := by
  have hn := hT.F.slh.n0; have hn1 := hT.F.slh.n1; have hb := hT.B.slh.n0; have hb1 := hT.B.slh.n1; have hc0 := hT.C.row.slh.n0; have hc1 := hT.C.row.slh.n1
  refine zenG Try.func15 Try.ntmps15 fun w hS => ?_
  refine zsr ?_
  refine zla (xbx (cs := [_, _, _, _, _]) hS) ?_; rintro _ w ⟨g1, rfl, hS⟩
  replace hS := hS.n1
  refine zlv xas ?_
  refine zlt <| zsq <| zsr ?_
  refine zlv xas ?_
  refine zlt <| zbk <| zlp (fun mm M w => ∃ (i : Int), mm = ((t.nc - i).toNat) ∧ (0 ≤ i) ∧ (i ≤ t.nc) ∧ (∀ k, 0 ≤ k → k < i → t.ln k ≤ 20) ∧ M = [(1, .pointer (some ⟨g1, 0, none⟩)), (3, .int .i64 i)] ∧ Sat w0 w [.blk g1 [.int .i64 t.vars, .int .i64 t.den, vB, vF, vC]]) ⟨0, rfl, (by omega), (by omega), ?_, rfl, hS⟩ ?_
  ·
   intro k k0 k1; omega
  clear hS w
  rintro mm M w ⟨i, rfl, h0, h1, hall, rfl, hS⟩
  refine zsq <| zsr ?_
  refine zlv xmv ?_
  refine zlv (xfb 4 fd_25_4) ?_
  refine zlv (xlb 0 pl_23 hS) ?_
  refine zlv (xln sl_23 hT.C.row.slh) ?_
  refine zlv xlss ?_
  refine zlt ?_
  refine zcif ?_ ?_ <;> intro hc
  ·
   refine zsk <| ztn <| zsq <| zbk <| zsr ?_
   refine zlv (xfb 4 fd_25_4) ?_
   refine zlv (xlb 0 pl_23 hS) ?_
   refine zlv xmv ?_
   refine zlv (xix (kk := i) sl_23 hT.C.row.slh) ?_
   refine zlv (xlr (u := (vv i)) pl_22 (hT.C.row.below hS.below)) ?_
   refine zlv (xln sl_22 (hT.C.p i (by omega) (by omega)).slh) ?_
   refine zlv xgtr ?_
   refine zlt ?_
   refine zcif ?_ ?_ <;> intro hc
   ·
    refine zsr ?_
    refine zlv xas ?_
    refine zlt <| zrt <| zbr <| ztr <| ztr <| zbr <| ztr <| zf1 ⟨_, rfl, ?_⟩
    exact ⟨false_B (by rintro ⟨h1, h2, h3, h4⟩; first | omega | (have := h1 i h0 (by omega); omega)), hS.nl⟩
   refine zsk <| zbn <| ztn <| zrg ?_
   refine zlv xmv ?_
   refine zlv (xadd (r := i + 1)) ?_
   refine zlv xas ?_
   refine zln <| zlq ⟨i + 1, rfl, (by omega), (by omega), ?_, rfl, hS⟩
   ·
    intro k h0' h1'; rcases Int.lt_or_eq_of_le (show k ≤ i by omega) with hk | hk; exact hall k h0' hk; rw [hk]; omega
  refine zxt <| ztx <| ztx <| zbh <| ztn <| zsr ?_
  refine zlv (xfb 3 fd_25_3) ?_
  refine zlv (xlb 0 pl_22 hS) ?_
  refine zlv (xln sl_22 hT.F.slh) ?_
  refine zs2 ?_
  refine zlb 22 ?_ ?_ <;> intro hc
  ·
   refine zlv (xfb 2 fd_25_2) ?_
   refine zlv (xlb 0 pl_22 hS) ?_
   refine zlv (xln sl_22 hT.B.slh) ?_
   refine zs3 ?_
   refine zlb 28 ?_ ?_ <;> intro hc
   ·
    refine zlv (xfb 4 fd_25_4) ?_
    refine zlv (xlb 0 pl_23 hS) ?_
    refine zlv (xln sl_23 hT.C.row.slh) ?_
    refine zs3 ?_
    refine zlt <| zrt <| zf1 ⟨_, rfl, ?_⟩
    exact ⟨B_congr ⟨fun hx => ⟨fun k k0 k1 => hall k k0 (by omega), by omega, by omega, by omega⟩, fun h => by have h1 := h.2.1; have h2 := h.2.2.1; have h3 := h.2.2.2; omega⟩, hS.nl⟩
   iterate 4 refine zlo ?_
   refine zs2 ?_
   refine zlt <| zrt <| zf1 ⟨_, rfl, ?_⟩
   exact ⟨false_B (by rintro ⟨h1, h2, h3, h4⟩; first | omega | (have := h1 i h0 (by omega); omega)), hS.nl⟩
  iterate 4 refine zlo ?_
  refine zs2 ?_
  iterate 4 refine zlo ?_
  refine zs2 ?_
  refine zlt <| zrt <| zf1 ⟨_, rfl, ?_⟩
  exact ⟨false_B (by rintro ⟨h1, h2, h3, h4⟩; first | omega | (have := h1 i h0 (by omega); omega)), hS.nl⟩

theorem all_cat (t : Tb) {k : Int} (k0 : 0 ≤ k) : (cat t.nb (cat 0 (fun _ => 0) t.B) t.F) k = cat t.nb t.B t.F k := by
  unfold cat; (repeat' split) <;> first | rfl | omega | (congr 1; omega)
theorem all_perm {t : Tb} (hp : TPrp t) (hm : 0 ≤ t.nb) : PermF (cat t.nb (cat 0 (fun _ => 0) t.B) t.F) (t.nb + t.nf) :=
  (perm_swap (by have := hp.n1; omega) hm hp.perm).congr fun k k0 _ => (all_cat t k0).symm

set_option maxRecDepth 20000 in
theorem c_rproper {vB vF vC : Value} {vv : Int → Value} {t : Tb} (w0 : World) (hT : TAt w0 vB vF vC vv t) :
    Calls Try.prog 62 [.agg #[.int .i64 t.vars, .int .i64 t.den, vB, vF, vC]].toArray w0 fun e w => ∃ v, e = .returned v ∧ v = B (TPrp t) ∧ Sat w0 w [] := by
  have hn := hT.F.slh.n0; have hn1 := hT.F.slh.n1; have hb := hT.B.slh.n0; have hb1 := hT.B.slh.n1; have hc0 := hT.C.row.slh.n0; have hc1 := hT.C.row.slh.n1
  refine zenG Try.func62 Try.ntmps62 fun w hS => ?_
  refine zsr ?_
  refine zla (xbx (cs := [_, _, _, _, _]) hS) ?_; rintro _ w ⟨g1, rfl, hS⟩
  replace hS := hS.n1
  refine zlv xas ?_
  refine zlt <| zsq ?_
  refine zdst [0] [0] 1000 mx_ hS ?_; clear hS; intro w hS
  refine zdv 0 (fun _ => (xfb 2 fd_25_2)) ?_
  refine zdla 1 (fun w hS => (xlb 0 pl_22 hS)) ?_
  refine zdv 2 (fun _ => (xln sl_22 hT.B.slh)) ?_
  refine zdv 3 (fun _ => (xfb 3 fd_25_3)) ?_
  refine zdla 4 (fun w hS => (xlb 0 pl_22 hS)) ?_
  refine zdv 5 (fun _ => (xln sl_22 hT.F.slh)) ?_
  refine zdv 6 (fun _ => xas) ?_
  refine zdv 7 (fun _ => xas) ?_
  refine zdd <| ztn <| zsq <| zsr ?_
  refine zs3 ?_
  refine zlb 17 ?_ ?_ <;> intro hc
  ·
   iterate 2 refine zlo ?_
   refine zs2 ?_
   iterate 2 refine zlo ?_
   refine zs2 ?_
   iterate 4 refine zlo ?_
   refine zs2 ?_
   iterate 6 refine zlo ?_
   refine zs2 ?_
   iterate 3 refine zlo ?_
   refine zs2 ?_
   iterate 3 refine zlo ?_
   refine zlv xpt ?_
   refine zlt <| zct <| zsr ?_
   refine zlv xas ?_
   refine zlt <| zrt <| ztr <| zf1 ⟨_, rfl, ?_⟩
   exact ⟨false_B (by
    intro hp; have b1 := hp.n1; have b2 := hp.n2; have b3 := hp.m2; have b4 := hp.v; have b5 := hp.d1; have b6 := hp.d2; have b7 := hp.c; have b8 := all_perm hp (by omega)
    first
    | omega
    | (have hr := (hp.rows i h0 (by omega)).1; omega)
    | exact absurd (fun j j0 j1 => (hp.rows i h0 (by omega)).2 j j0 j1) ‹¬ (∀ k, 0 ≤ k → k < t.ln i → -1073741824 ≤ t.C i k ∧ t.C i k ≤ 1073741824)›
    | (have := b8.1 q q0 (by omega); omega)
    | (obtain ⟨j, j0, j1, e⟩ := ‹∃ j, 0 ≤ j ∧ j < q ∧ (cat t.nb (cat 0 (fun _ => 0) t.B) t.F) j = (cat t.nb (cat 0 (fun _ => 0) t.B) t.F) q›; have := b8.2 j q j0 (by omega) q0 (by omega) e; omega)), hS.nl⟩
  refine zs4 ?_
  refine zlb 21 ?_ ?_ <;> intro hc
  ·
   iterate 2 refine zlo ?_
   refine zs2 ?_
   iterate 4 refine zlo ?_
   refine zs2 ?_
   iterate 6 refine zlo ?_
   refine zs2 ?_
   iterate 3 refine zlo ?_
   refine zs2 ?_
   iterate 3 refine zlo ?_
   refine zlv xpt ?_
   refine zlt <| zct <| zsr ?_
   refine zlv xas ?_
   refine zlt <| zrt <| ztr <| zf1 ⟨_, rfl, ?_⟩
   exact ⟨false_B (by
    intro hp; have b1 := hp.n1; have b2 := hp.n2; have b3 := hp.m2; have b4 := hp.v; have b5 := hp.d1; have b6 := hp.d2; have b7 := hp.c; have b8 := all_perm hp (by omega)
    first
    | omega
    | (have hr := (hp.rows i h0 (by omega)).1; omega)
    | exact absurd (fun j j0 j1 => (hp.rows i h0 (by omega)).2 j j0 j1) ‹¬ (∀ k, 0 ≤ k → k < t.ln i → -1073741824 ≤ t.C i k ∧ t.C i k ≤ 1073741824)›
    | (have := b8.1 q q0 (by omega); omega)
    | (obtain ⟨j, j0, j1, e⟩ := ‹∃ j, 0 ≤ j ∧ j < q ∧ (cat t.nb (cat 0 (fun _ => 0) t.B) t.F) j = (cat t.nb (cat 0 (fun _ => 0) t.B) t.F) q›; have := b8.2 j q j0 (by omega) q0 (by omega) e; omega)), hS.nl⟩
  refine zs4 ?_
  refine zlb 25 ?_ ?_ <;> intro hc
  ·
   iterate 4 refine zlo ?_
   refine zs2 ?_
   iterate 6 refine zlo ?_
   refine zs2 ?_
   iterate 3 refine zlo ?_
   refine zs2 ?_
   iterate 3 refine zlo ?_
   refine zlv xpt ?_
   refine zlt <| zct <| zsr ?_
   refine zlv xas ?_
   refine zlt <| zrt <| ztr <| zf1 ⟨_, rfl, ?_⟩
   exact ⟨false_B (by
    intro hp; have b1 := hp.n1; have b2 := hp.n2; have b3 := hp.m2; have b4 := hp.v; have b5 := hp.d1; have b6 := hp.d2; have b7 := hp.c; have b8 := all_perm hp (by omega)
    first
    | omega
    | (have hr := (hp.rows i h0 (by omega)).1; omega)
    | exact absurd (fun j j0 j1 => (hp.rows i h0 (by omega)).2 j j0 j1) ‹¬ (∀ k, 0 ≤ k → k < t.ln i → -1073741824 ≤ t.C i k ∧ t.C i k ≤ 1073741824)›
    | (have := b8.1 q q0 (by omega); omega)
    | (obtain ⟨j, j0, j1, e⟩ := ‹∃ j, 0 ≤ j ∧ j < q ∧ (cat t.nb (cat 0 (fun _ => 0) t.B) t.F) j = (cat t.nb (cat 0 (fun _ => 0) t.B) t.F) q›; have := b8.2 j q j0 (by omega) q0 (by omega) e; omega)), hS.nl⟩
  refine zlv (xfb 0 fd_25_0) ?_
  refine zlv (xlb 0 pl_3 hS) ?_
  refine zs4 ?_
  refine zlb 31 ?_ ?_ <;> intro hc
  ·
   iterate 6 refine zlo ?_
   refine zs2 ?_
   iterate 3 refine zlo ?_
   refine zs2 ?_
   iterate 3 refine zlo ?_
   refine zlv xpt ?_
   refine zlt <| zct <| zsr ?_
   refine zlv xas ?_
   refine zlt <| zrt <| ztr <| zf1 ⟨_, rfl, ?_⟩
   exact ⟨false_B (by
    intro hp; have b1 := hp.n1; have b2 := hp.n2; have b3 := hp.m2; have b4 := hp.v; have b5 := hp.d1; have b6 := hp.d2; have b7 := hp.c; have b8 := all_perm hp (by omega)
    first
    | omega
    | (have hr := (hp.rows i h0 (by omega)).1; omega)
    | exact absurd (fun j j0 j1 => (hp.rows i h0 (by omega)).2 j j0 j1) ‹¬ (∀ k, 0 ≤ k → k < t.ln i → -1073741824 ≤ t.C i k ∧ t.C i k ≤ 1073741824)›
    | (have := b8.1 q q0 (by omega); omega)
    | (obtain ⟨j, j0, j1, e⟩ := ‹∃ j, 0 ≤ j ∧ j < q ∧ (cat t.nb (cat 0 (fun _ => 0) t.B) t.F) j = (cat t.nb (cat 0 (fun _ => 0) t.B) t.F) q›; have := b8.2 j q j0 (by omega) q0 (by omega) e; omega)), hS.nl⟩
  refine zlv (xfb 4 fd_25_4) ?_
  refine zlv (xlb 0 pl_23 hS) ?_
  refine zlv (xln sl_23 hT.C.row.slh) ?_
  refine zlv xmv ?_
  refine zlv (xadd (r := t.nb + 1)) ?_
  refine zs3 ?_
  refine zlb 39 ?_ ?_ <;> intro hc
  ·
   iterate 3 refine zlo ?_
   refine zs2 ?_
   iterate 3 refine zlo ?_
   refine zlv xpt ?_
   refine zlt <| zct <| zsr ?_
   refine zlv xas ?_
   refine zlt <| zrt <| ztr <| zf1 ⟨_, rfl, ?_⟩
   exact ⟨false_B (by
    intro hp; have b1 := hp.n1; have b2 := hp.n2; have b3 := hp.m2; have b4 := hp.v; have b5 := hp.d1; have b6 := hp.d2; have b7 := hp.c; have b8 := all_perm hp (by omega)
    first
    | omega
    | (have hr := (hp.rows i h0 (by omega)).1; omega)
    | exact absurd (fun j j0 j1 => (hp.rows i h0 (by omega)).2 j j0 j1) ‹¬ (∀ k, 0 ≤ k → k < t.ln i → -1073741824 ≤ t.C i k ∧ t.C i k ≤ 1073741824)›
    | (have := b8.1 q q0 (by omega); omega)
    | (obtain ⟨j, j0, j1, e⟩ := ‹∃ j, 0 ≤ j ∧ j < q ∧ (cat t.nb (cat 0 (fun _ => 0) t.B) t.F) j = (cat t.nb (cat 0 (fun _ => 0) t.B) t.F) q›; have := b8.2 j q j0 (by omega) q0 (by omega) e; omega)), hS.nl⟩
  refine zlv (xfb 1 fd_25_1) ?_
  refine zlv (xlb 0 pl_3 hS) ?_
  refine zs3 ?_
  refine zlb 44 ?_ ?_ <;> intro hc
  ·
   iterate 3 refine zlo ?_
   refine zlv xpt ?_
   refine zlt <| zct <| zsr ?_
   refine zlv xas ?_
   refine zlt <| zrt <| ztr <| zf1 ⟨_, rfl, ?_⟩
   exact ⟨false_B (by
    intro hp; have b1 := hp.n1; have b2 := hp.n2; have b3 := hp.m2; have b4 := hp.v; have b5 := hp.d1; have b6 := hp.d2; have b7 := hp.c; have b8 := all_perm hp (by omega)
    first
    | omega
    | (have hr := (hp.rows i h0 (by omega)).1; omega)
    | exact absurd (fun j j0 j1 => (hp.rows i h0 (by omega)).2 j j0 j1) ‹¬ (∀ k, 0 ≤ k → k < t.ln i → -1073741824 ≤ t.C i k ∧ t.C i k ≤ 1073741824)›
    | (have := b8.1 q q0 (by omega); omega)
    | (obtain ⟨j, j0, j1, e⟩ := ‹∃ j, 0 ≤ j ∧ j < q ∧ (cat t.nb (cat 0 (fun _ => 0) t.B) t.F) j = (cat t.nb (cat 0 (fun _ => 0) t.B) t.F) q›; have := b8.2 j q j0 (by omega) q0 (by omega) e; omega)), hS.nl⟩
  refine zlv (xfb 1 fd_25_1) ?_
  refine zlv (xlb 0 pl_3 hS) ?_
  refine zs2 ?_
  refine zlt ?_
  refine zcif ?_ ?_ <;> intro hc
  ·
   refine zsr ?_
   refine zlv xas ?_
   refine zlt <| zrt <| ztr <| zf1 ⟨_, rfl, ?_⟩
   exact ⟨false_B (by
    intro hp; have b1 := hp.n1; have b2 := hp.n2; have b3 := hp.m2; have b4 := hp.v; have b5 := hp.d1; have b6 := hp.d2; have b7 := hp.c; have b8 := all_perm hp (by omega)
    first
    | omega
    | (have hr := (hp.rows i h0 (by omega)).1; omega)
    | exact absurd (fun j j0 j1 => (hp.rows i h0 (by omega)).2 j j0 j1) ‹¬ (∀ k, 0 ≤ k → k < t.ln i → -1073741824 ≤ t.C i k ∧ t.C i k ≤ 1073741824)›
    | (have := b8.1 q q0 (by omega); omega)
    | (obtain ⟨j, j0, j1, e⟩ := ‹∃ j, 0 ≤ j ∧ j < q ∧ (cat t.nb (cat 0 (fun _ => 0) t.B) t.F) j = (cat t.nb (cat 0 (fun _ => 0) t.B) t.F) q›; have := b8.2 j q j0 (by omega) q0 (by omega) e; omega)), hS.nl⟩
  refine zsk <| ztn <| zsq <| zsr ?_
  refine zlv xas ?_
  refine zlt <| zbk <| zlp (fun mm M w => ∃ (i : Int), mm = ((t.nc - i).toNat) ∧ (0 ≤ i) ∧ (i ≤ t.nc) ∧ (∀ k, 0 ≤ k → k < i → t.rowOk k) ∧ M = [(1, .pointer (some ⟨g1, 0, none⟩)), (3, .int .i64 t.nb), (4, .int .i64 t.nf), (5, .int .i64 i)] ∧ Sat w0 w [.blk g1 [.int .i64 t.vars, .int .i64 t.den, vB, vF, vC]]) ⟨0, rfl, (by omega), (by omega), ?_, rfl, hS⟩ ?_
  ·
   intro k k0 k1; omega
  clear hS w
  rintro mm M w ⟨i, rfl, h0, h1, hall, rfl, hS⟩
  refine zsq <| zsr ?_
  refine zlv xmv ?_
  refine zlv (xfb 4 fd_25_4) ?_
  refine zlv (xlb 0 pl_23 hS) ?_
  refine zlv (xln sl_23 hT.C.row.slh) ?_
  refine zlv xlss ?_
  refine zlt ?_
  refine zcif ?_ ?_ <;> intro hc
  ·
   refine zsk <| ztn <| zsq <| zbk <| zsr ?_
   refine zlv (xfb 4 fd_25_4) ?_
   refine zlv (xlb 0 pl_23 hS) ?_
   refine zlv xmv ?_
   refine zlv (xix (kk := i) sl_23 hT.C.row.slh) ?_
   refine zlv (xlr (u := (vv i)) pl_22 (hT.C.row.below hS.below)) ?_
   refine zlv (xln sl_22 (hT.C.p i (by omega) (by omega)).slh) ?_
   refine zlv xmv ?_
   refine zlv (xadd (r := t.nf + 1)) ?_
   refine zs2 ?_
   refine zlb 65 ?_ ?_ <;> intro hc
   ·
    iterate 7 refine zlo ?_
    refine zlv xpt ?_
    refine zlt <| zct <| zsr ?_
    refine zlv xas ?_
    refine zlt <| zrt <| zbr <| ztr <| ztr <| zbr <| ztr <| zf1 ⟨_, rfl, ?_⟩
    exact ⟨false_B (by
     intro hp; have b1 := hp.n1; have b2 := hp.n2; have b3 := hp.m2; have b4 := hp.v; have b5 := hp.d1; have b6 := hp.d2; have b7 := hp.c; have b8 := all_perm hp (by omega)
     first
     | omega
     | (have hr := (hp.rows i h0 (by omega)).1; omega)
     | exact absurd (fun j j0 j1 => (hp.rows i h0 (by omega)).2 j j0 j1) ‹¬ (∀ k, 0 ≤ k → k < t.ln i → -1073741824 ≤ t.C i k ∧ t.C i k ≤ 1073741824)›
     | (have := b8.1 q q0 (by omega); omega)
     | (obtain ⟨j, j0, j1, e⟩ := ‹∃ j, 0 ≤ j ∧ j < q ∧ (cat t.nb (cat 0 (fun _ => 0) t.B) t.F) j = (cat t.nb (cat 0 (fun _ => 0) t.B) t.F) q›; have := b8.2 j q j0 (by omega) q0 (by omega) e; omega)), hS.nl⟩
   refine zlv (xfb 4 fd_25_4) ?_
   refine zlv (xlb 0 pl_23 hS) ?_
   refine zlv xmv ?_
   refine zlv (xix (kk := i) sl_23 hT.C.row.slh) ?_
   refine zlv (xlr (u := (vv i)) pl_22 (hT.C.row.below hS.below)) ?_
   refine zlc (xc0 cl_68) (c_within (n := (t.ln i)) (lo := (-1073741824)) (hi := 1073741824) (f := (t.C i)) w ((hT.C.p i (by omega) (by omega)).below hS.below)) ?_; rintro _ w ⟨rfl, hS'⟩
   replace hS := hS.cmp hS'; clear hS'
   refine zs2 ?_
   refine zlt ?_
   refine zcif ?_ ?_ <;> intro hc
   ·
    refine zsr ?_
    refine zlv xas ?_
    refine zlt <| zrt <| zbr <| ztr <| ztr <| zbr <| ztr <| zf1 ⟨_, rfl, ?_⟩
    exact ⟨false_B (by
     intro hp; have b1 := hp.n1; have b2 := hp.n2; have b3 := hp.m2; have b4 := hp.v; have b5 := hp.d1; have b6 := hp.d2; have b7 := hp.c; have b8 := all_perm hp (by omega)
     first
     | omega
     | (have hr := (hp.rows i h0 (by omega)).1; omega)
     | exact absurd (fun j j0 j1 => (hp.rows i h0 (by omega)).2 j j0 j1) ‹¬ (∀ k, 0 ≤ k → k < t.ln i → -1073741824 ≤ t.C i k ∧ t.C i k ≤ 1073741824)›
     | (have := b8.1 q q0 (by omega); omega)
     | (obtain ⟨j, j0, j1, e⟩ := ‹∃ j, 0 ≤ j ∧ j < q ∧ (cat t.nb (cat 0 (fun _ => 0) t.B) t.F) j = (cat t.nb (cat 0 (fun _ => 0) t.B) t.F) q›; have := b8.2 j q j0 (by omega) q0 (by omega) e; omega)), hS.nl⟩
   refine zsk <| zbn <| ztn <| zrg ?_
   refine zlv xmv ?_
   refine zlv (xadd (r := i + 1)) ?_
   refine zlv xas ?_
   refine zln <| zlq ⟨i + 1, rfl, (by omega), (by omega), ?_, rfl, hS⟩
   ·
    have hq : ∀ k, 0 ≤ k → k < t.ln i → -1073741824 ≤ t.C i k ∧ t.C i k ≤ 1073741824 := by first | assumption | exact Classical.not_not.1 ‹_›
    intro k h0' h1'; rcases Int.lt_or_eq_of_le (show k ≤ i by omega) with hk | hk; exact hall k h0' hk; rw [hk]; exact ⟨by omega, fun j j0 j1 => hq j j0 j1⟩
  refine zxt <| ztx <| ztx <| zbh <| ztn <| zsq ?_
  refine zdst [0] [0] 1000 mx_ hS ?_; clear hS; intro w hS
  refine zdv 1 (fun _ => (xfb 2 fd_25_2)) ?_
  refine zdla 2 (fun w hS => (xlb 0 pl_22 hS)) ?_
  refine zdv 4 (fun _ => (xfb 3 fd_25_3)) ?_
  refine zdla 5 (fun w hS => (xlb 0 pl_22 hS)) ?_
  refine zda 0 (xl0 (c := ints (fun _ => 0)) sl_22 hS) ?_; rintro v1 w ⟨hS, hv1⟩
  replace hS := hS.n2
  refine ⟨⟨fun _ => hS.pk [0], hS.pk [0]⟩, ?_⟩
  refine zda 3 (xap 1 (r := t.nb) (f := ints (cat 0 (fun _ => 0) t.B)) sl_22 el_3 hS (hT.B.below hS.below) (by exact cat_ints1 _ _ _)) ?_; rintro v2 w ⟨hS, hv2⟩
  replace hS := hS.n2
  refine ⟨⟨fun _ => hS.pk [0], hS.pk [0]⟩, ?_⟩
  refine zda 6 (xap 1 (r := t.nb + t.nf) (f := ints (cat t.nb (cat 0 (fun _ => 0) t.B) t.F)) sl_22 el_3 hS (hT.F.below hS.below) (by exact cat_ints1 _ _ _)) ?_; rintro v3 w ⟨hS, hv3⟩
  replace hS := hS.n2
  refine ⟨⟨fun _ => hS.pk [0], hS.pk [0]⟩, ?_⟩
  refine zdv 7 (fun _ => xas) ?_
  refine zdd <| ztn <| zsr ?_
  refine zs2 ?_
  refine zlv (xadd (r := t.nb + t.nf)) ?_
  refine zla (xmk sl_150 el_4 hS) ?_; rintro v4 w ⟨hS, hv4⟩
  replace hS := hS.n3
  refine zlv xas ?_
  refine zlt <| zsq <| zsr ?_
  refine zlv xas ?_
  refine zlt <| zbk <| zlp (fun mm M w => ∃ (cS : Int → Value) (q : Int), mm = ((t.nb + t.nf - q).toNat) ∧ (0 ≤ q) ∧ (q ≤ t.nb + t.nf) ∧ (∀ k, 0 ≤ k → k < t.nb + t.nf → cS k = B (∃ j, 0 ≤ j ∧ j < q ∧ (cat t.nb (cat 0 (fun _ => 0) t.B) t.F) j = k)) ∧ (∀ k, 0 ≤ k → k < q → 0 ≤ (cat t.nb (cat 0 (fun _ => 0) t.B) t.F) k ∧ (cat t.nb (cat 0 (fun _ => 0) t.B) t.F) k < t.nb + t.nf) ∧ (∀ k j, 0 ≤ k → k < q → 0 ≤ j → j < q → (cat t.nb (cat 0 (fun _ => 0) t.B) t.F) k = (cat t.nb (cat 0 (fun _ => 0) t.B) t.F) j → k = j) ∧ M = [(3, .int .i64 t.nb), (4, .int .i64 t.nf), (6, v3), (7, v4), (8, .int .i64 q)] ∧ Sat w0 w [.blk g1 [.int .i64 t.vars, .int .i64 t.den, vB, vF, vC], .own v3 1 3 (t.nb + t.nf) (ints (cat t.nb (cat 0 (fun _ => 0) t.B) t.F)), .own v4 1 4 (t.nb + t.nf) cS]) ⟨(fun _ => .bool false), 0, rfl, (by omega), (by omega), ?_, ?_, ?_, rfl, hS⟩ ?_
  ·
   intro k k0 k1; exact (B_false (by rintro ⟨j, j0, j1, _⟩; omega)).symm
  ·
   intro k k0 k1; omega
  ·
   intro k j k0 k1; omega
  clear hS w
  rintro mm M w ⟨cS, q, rfl, q0, q1, hcS, hrg, hin, rfl, hS⟩
  refine zsq <| zsr ?_
  refine zs2 ?_
  refine zlv (xln sl_22 hv3) ?_
  refine zlv xlss ?_
  refine zlt ?_
  refine zcif ?_ ?_ <;> intro hc
  ·
   refine zsk <| ztn <| zsq <| zbk <| zsq <| zsr ?_
   refine zs2 ?_
   refine zlv (xix (kk := q) sl_22 hv3) ?_
   refine zlv (xlr (u := .int .i64 ((cat t.nb (cat 0 (fun _ => 0) t.B) t.F) q)) pl_3 (hS.rowN 1 rfl)) ?_
   refine zs2 ?_
   refine zlb 96 ?_ ?_ <;> intro hc
   ·
    iterate 8 refine zlo ?_
    refine zs2 ?_
    iterate 7 refine zlo ?_
    refine zlv xpt ?_
    refine zlt <| zct <| zsr ?_
    refine zlv xas ?_
    refine zlt <| zrt <| ztr <| zbr <| ztr <| ztr <| zbr <| ztr <| zf1 ⟨_, rfl, ?_⟩
    exact ⟨false_B (by
     intro hp; have b1 := hp.n1; have b2 := hp.n2; have b3 := hp.m2; have b4 := hp.v; have b5 := hp.d1; have b6 := hp.d2; have b7 := hp.c; have b8 := all_perm hp (by omega)
     first
     | omega
     | (have hr := (hp.rows i h0 (by omega)).1; omega)
     | exact absurd (fun j j0 j1 => (hp.rows i h0 (by omega)).2 j j0 j1) ‹¬ (∀ k, 0 ≤ k → k < t.ln i → -1073741824 ≤ t.C i k ∧ t.C i k ≤ 1073741824)›
     | (have := b8.1 q q0 (by omega); omega)
     | (obtain ⟨j, j0, j1, e⟩ := ‹∃ j, 0 ≤ j ∧ j < q ∧ (cat t.nb (cat 0 (fun _ => 0) t.B) t.F) j = (cat t.nb (cat 0 (fun _ => 0) t.B) t.F) q›; have := b8.2 j q j0 (by omega) q0 (by omega) e; omega)), hS.nl⟩
   refine zs2 ?_
   refine zlv (xix (kk := q) sl_22 hv3) ?_
   refine zlv (xlr (u := .int .i64 ((cat t.nb (cat 0 (fun _ => 0) t.B) t.F) q)) pl_3 (hS.rowN 1 rfl)) ?_
   refine zs2 ?_
   refine zlv (xadd (r := t.nb + t.nf)) ?_
   refine zs3 ?_
   refine zlb 106 ?_ ?_ <;> intro hc
   ·
    iterate 7 refine zlo ?_
    refine zlv xpt ?_
    refine zlt <| zct <| zsr ?_
    refine zlv xas ?_
    refine zlt <| zrt <| ztr <| zbr <| ztr <| ztr <| zbr <| ztr <| zf1 ⟨_, rfl, ?_⟩
    exact ⟨false_B (by
     intro hp; have b1 := hp.n1; have b2 := hp.n2; have b3 := hp.m2; have b4 := hp.v; have b5 := hp.d1; have b6 := hp.d2; have b7 := hp.c; have b8 := all_perm hp (by omega)
     first
     | omega
     | (have hr := (hp.rows i h0 (by omega)).1; omega)
     | exact absurd (fun j j0 j1 => (hp.rows i h0 (by omega)).2 j j0 j1) ‹¬ (∀ k, 0 ≤ k → k < t.ln i → -1073741824 ≤ t.C i k ∧ t.C i k ≤ 1073741824)›
     | (have := b8.1 q q0 (by omega); omega)
     | (obtain ⟨j, j0, j1, e⟩ := ‹∃ j, 0 ≤ j ∧ j < q ∧ (cat t.nb (cat 0 (fun _ => 0) t.B) t.F) j = (cat t.nb (cat 0 (fun _ => 0) t.B) t.F) q›; have := b8.2 j q j0 (by omega) q0 (by omega) e; omega)), hS.nl⟩
   refine zs3 ?_
   refine zlv (xix (kk := q) sl_22 hv3) ?_
   refine zlv (xlr (u := .int .i64 ((cat t.nb (cat 0 (fun _ => 0) t.B) t.F) q)) pl_3 (hS.rowN 1 rfl)) ?_
   refine zlv (xix (kk := (cat t.nb (cat 0 (fun _ => 0) t.B) t.F) q) sl_150 hv4) ?_
   refine zlv (xlr (u := B (∃ j, 0 ≤ j ∧ j < q ∧ (cat t.nb (cat 0 (fun _ => 0) t.B) t.F) j = (cat t.nb (cat 0 (fun _ => 0) t.B) t.F) q)) pl_4 (hS.rowN 2 rfl) (e := (hcS _ (by omega) (by omega)))) ?_
   refine zlv xpf ?_
   refine zlt ?_
   refine zcif ?_ ?_ <;> intro hc
   ·
    refine zsr ?_
    refine zlv xas ?_
    refine zlt <| zrt <| ztr <| zbr <| ztr <| ztr <| zbr <| ztr <| zf1 ⟨_, rfl, ?_⟩
    exact ⟨false_B (by
     intro hp; have b1 := hp.n1; have b2 := hp.n2; have b3 := hp.m2; have b4 := hp.v; have b5 := hp.d1; have b6 := hp.d2; have b7 := hp.c; have b8 := all_perm hp (by omega)
     first
     | omega
     | (have hr := (hp.rows i h0 (by omega)).1; omega)
     | exact absurd (fun j j0 j1 => (hp.rows i h0 (by omega)).2 j j0 j1) ‹¬ (∀ k, 0 ≤ k → k < t.ln i → -1073741824 ≤ t.C i k ∧ t.C i k ≤ 1073741824)›
     | (have := b8.1 q q0 (by omega); omega)
     | (obtain ⟨j, j0, j1, e⟩ := ‹∃ j, 0 ≤ j ∧ j < q ∧ (cat t.nb (cat 0 (fun _ => 0) t.B) t.F) j = (cat t.nb (cat 0 (fun _ => 0) t.B) t.F) q›; have := b8.2 j q j0 (by omega) q0 (by omega) e; omega)), hS.nl⟩
   refine zsk <| ztn <| zrg ?_
   refine zs3 ?_
   refine zlv (xix (kk := q) sl_22 hv3) ?_
   refine zlv (xlr (u := .int .i64 ((cat t.nb (cat 0 (fun _ => 0) t.B) t.F) q)) pl_3 (hS.rowN 1 rfl)) ?_
   refine zlv (xix (kk := (cat t.nb (cat 0 (fun _ => 0) t.B) t.F) q) sl_150 hv4) ?_
   refine zle (xso 2 pl_4 hS rfl) ?_; clear hS; rintro w hS
   replace hS := hS.n3
   refine zln <| zbn <| ztn <| zrg ?_
   refine zlv xmv ?_
   refine zlv (xadd (r := q + 1)) ?_
   refine zlv xas ?_
   refine zln <| zlq ⟨upd cS ((cat t.nb (cat 0 (fun _ => 0) t.B) t.F) q) (.bool true), q + 1, rfl, (by omega), (by omega), ?_, ?_, ?_, rfl, hS⟩
   ·
    intro k k0 k1; by_cases e : k = (cat t.nb (cat 0 (fun _ => 0) t.B) t.F) q
    · rw [e, upd_self]; exact (B_true ⟨q, q0, by omega, rfl⟩).symm
    · rw [upd_ne _ _ e, hcS k k0 k1]; exact B_congr ⟨fun ⟨j, j0, j1, h⟩ => ⟨j, j0, by omega, h⟩, fun ⟨j, j0, j1, h⟩ => ⟨j, j0, by rcases Int.lt_or_eq_of_le (show j ≤ q by omega) with hh | hh; exact hh; exact absurd (by rw [← h, hh]) e, h⟩⟩
   ·
    intro k k0 k1; rcases Int.lt_or_eq_of_le (show k ≤ q by omega) with hk | hk; exact hrg k k0 hk; rw [hk]; omega
   ·
    have hns : ¬ (∃ j, 0 ≤ j ∧ j < q ∧ (cat t.nb (cat 0 (fun _ => 0) t.B) t.F) j = (cat t.nb (cat 0 (fun _ => 0) t.B) t.F) q) := ‹_›
    intro k j k0 k1 j0 j1 e; rcases Int.lt_or_eq_of_le (show k ≤ q by omega) with hk | hk <;> rcases Int.lt_or_eq_of_le (show j ≤ q by omega) with hj | hj
    · exact hin k j k0 hk j0 hj e
    · exact absurd ⟨k, k0, hk, by rw [e, hj]⟩ hns
    · exact absurd ⟨j, j0, hj, by rw [← e, hk]⟩ hns
    · omega
  refine zxt <| ztx <| ztx <| zbh <| ztn <| zsr ?_
  refine zlv xas ?_
  refine zlt <| zrt <| zf1 ⟨_, rfl, ?_⟩
  obtain rfl : q = t.nb + t.nf := by omega
  have hpp : PermF (cat t.nb (cat 0 (fun _ => 0) t.B) t.F) (t.nb + t.nf) := ⟨hrg, hin⟩
  exact ⟨true_B ⟨by omega, by omega, by omega, by omega, by omega, by omega, by omega, perm_swap (by omega) (by omega) (hpp.congr fun k k0 _ => all_cat t k0), fun k k0 k1 => hall k k0 (by omega)⟩, hS.nl⟩

set_option maxRecDepth 20000 in
theorem c_leaving {vB vF vC : Value} {vv : Int → Value} {t : Tb} (w0 : World) (hT : TAt w0 vB vF vC vv t) (hp : TPrp t) :
    Calls Try.prog 133 [.agg #[.int .i64 t.vars, .int .i64 t.den, vB, vF, vC]].toArray w0 fun e w => ∃ v, e = .returned v ∧ v = .int .i64 (leav t t.nb.toNat) ∧ Sat w0 w [] := by
  have hn := hT.F.slh.n0; have hn1 := hT.F.slh.n1; have hb := hT.B.slh.n0; have hb1 := hT.B.slh.n1; have hc0 := hT.C.row.slh.n0; have hc1 := hT.C.row.slh.n1
  have b1 := hp.n1; have b2 := hp.n2; have b3 := hp.m2; have b4 := hp.v; have b5 := hp.d1; have b6 := hp.d2; have b7 := hp.c
  refine zenG Try.func133 Try.ntmps133 fun w hS => ?_
  refine zsr ?_
  refine zla (xbx (cs := [_, _, _, _, _]) hS) ?_; rintro _ w ⟨g1, rfl, hS⟩
  replace hS := hS.n1
  refine zlv xas ?_
  refine zlz ?_
  refine zlv xas ?_
  refine zlt <| zsq <| zsr ?_
  refine zlv xas ?_
  refine zlt <| zbk <| zlp (fun mm M w => ∃ (r : Int) (i : Int), mm = ((t.nb - i).toNat) ∧ (0 ≤ i) ∧ (i ≤ t.nb) ∧ (r = leav t i.toNat) ∧ M = [(1, .pointer (some ⟨g1, 0, none⟩)), (2, .int .i64 0), (3, .int .i64 r), (4, .int .i64 i)] ∧ Sat w0 w [.blk g1 [.int .i64 t.vars, .int .i64 t.den, vB, vF, vC]]) ⟨(-1), 0, rfl, (by omega), (by omega), ?_, rfl, hS⟩ ?_
  ·
   rfl
  clear hS w
  rintro mm M w ⟨r, i, rfl, h0, h1, hr, rfl, hS⟩
  have hrr := leav_rng t i.toNat; rw [← hr] at hrr
  refine zsq <| zsr ?_
  refine zlv xmv ?_
  refine zlv (xfb 2 fd_25_2) ?_
  refine zlv (xlb 0 pl_22 hS) ?_
  refine zlv (xln sl_22 hT.B.slh) ?_
  refine zlv xlss ?_
  refine zlt ?_
  refine zcif ?_ ?_ <;> intro hc
  ·
   refine zsk <| ztn <| zsq <| zbk <| zsq ?_
   refine zdst [0] [0] 1000 mx_ hS ?_; clear hS; intro w hS
   refine zdv 0 (fun _ => (xfb 4 fd_25_4)) ?_
   have hlen := hp.len (i := i + 1) (by omega) (by omega)
   refine zdla 1 (fun w hS => (xlb 0 pl_23 hS)) ?_
   refine zdv 2 (fun _ => xmv) ?_
   refine zdv 3 (fun _ => (xadd (r := i + 1))) ?_
   refine zdv 4 (fun _ => (xix (kk := i + 1) sl_23 hT.C.row.slh)) ?_
   refine zdla 5 (fun w hS => (xlr (u := (vv (i + 1))) pl_22 (hT.C.row.below hS.below))) ?_
   refine zdv 6 (fun _ => (xix (kk := 0) sl_22 (hT.C.p (i + 1) (by omega) (by omega)).slh)) ?_
   refine zdla 7 (fun w hS => (xlr (u := .int .i64 ((t.C (i + 1)) 0)) pl_3 ((hT.C.p (i + 1) (by omega) (by omega)).below hS.below))) ?_
   refine zdv 8 (fun _ => xlss) ?_
   refine zdv 9 (fun _ => xmv) ?_
   refine zdb 21 ?_ ?_ <;> intro hc
   ·
    refine zdv 10 (fun _ => xmv) ?_
    refine zdv 11 (fun _ => xlss) ?_
    refine zdv 12 (fun _ => xmv) ?_
    refine zdb 24 ?_ ?_ <;> intro hc
    ·
     refine zdof 13 ?_
     refine zdof 14 ?_
     refine zdof 15 ?_
     refine zdof 16 ?_
     refine zdof 17 ?_
     refine zdof 18 ?_
     refine zdof 19 ?_
     refine zdof 20 ?_
     refine zdof 21 ?_
     refine zdof 22 ?_
     refine zdof 23 ?_
     refine zdv 24 (fun _ => xpt) ?_
     refine zdv 25 (fun _ => xpt) ?_
     refine zdd <| ztn <| zct <| zrg ?_
     refine zs2 ?_
     refine zln <| zbn <| ztn <| zrg ?_
     refine zlv xmv ?_
     refine zlv (xadd (r := i + 1)) ?_
     refine zlv xas ?_
     refine zln <| zlq ⟨i, i + 1, rfl, (by omega), (by omega), ?_, rfl, hS⟩
     ·
      rw [leav_next t h0, ← hr]; split <;> omega
    refine zdv 13 (fun _ => (xfb 2 fd_25_2)) ?_
    refine zdla 14 (fun w hS => (xlb 0 pl_22 hS)) ?_
    refine zdv 15 (fun _ => xmv) ?_
    refine zdv 16 (fun _ => (xix (kk := i) sl_22 hT.B.slh)) ?_
    refine zdla 17 (fun w hS => (xlr (u := .int .i64 (t.B i)) pl_3 (hT.B.below hS.below))) ?_
    refine zdv 18 (fun _ => (xfb 2 fd_25_2)) ?_
    refine zdla 19 (fun w hS => (xlb 0 pl_22 hS)) ?_
    refine zdv 20 (fun _ => xmv) ?_
    refine zdv 21 (fun _ => (xix (kk := r) sl_22 hT.B.slh)) ?_
    refine zdla 22 (fun w hS => (xlr (u := .int .i64 (t.B r)) pl_3 (hT.B.below hS.below))) ?_
    refine zdv 23 (fun _ => xlss) ?_
    refine zdv 24 (fun _ => xpf) ?_
    refine zdv 25 (fun _ => xpt) ?_
    refine zdd <| ztn ?_
    refine zcif ?_ ?_ <;> intro hc
    ·
     refine zrg ?_
     refine zs2 ?_
     refine zln <| zbn <| ztn <| zrg ?_
     refine zlv xmv ?_
     refine zlv (xadd (r := i + 1)) ?_
     refine zlv xas ?_
     refine zln <| zlq ⟨i, i + 1, rfl, (by omega), (by omega), ?_, rfl, hS⟩
     ·
      rw [leav_next t h0, ← hr]; split <;> omega
    refine zsk <| zbn <| ztn <| zrg ?_
    refine zlv xmv ?_
    refine zlv (xadd (r := i + 1)) ?_
    refine zlv xas ?_
    refine zln <| zlq ⟨r, i + 1, rfl, (by omega), (by omega), ?_, rfl, hS⟩
    ·
     rw [leav_next t h0, ← hr]; split <;> omega
   refine zdof 10 ?_
   refine zdof 11 ?_
   refine zdof 12 ?_
   refine zdof 13 ?_
   refine zdof 14 ?_
   refine zdof 15 ?_
   refine zdof 16 ?_
   refine zdof 17 ?_
   refine zdof 18 ?_
   refine zdof 19 ?_
   refine zdof 20 ?_
   refine zdof 21 ?_
   refine zdof 22 ?_
   refine zdof 23 ?_
   refine zdof 24 ?_
   refine zdv 25 (fun _ => xpf) ?_
   refine zdd <| ztn <| zcf <| zsk <| zbn <| ztn <| zrg ?_
   refine zlv xmv ?_
   refine zlv (xadd (r := i + 1)) ?_
   refine zlv xas ?_
   refine zln <| zlq ⟨r, i + 1, rfl, (by omega), (by omega), ?_, rfl, hS⟩
   ·
    rw [leav_next t h0, ← hr]; split <;> omega
  refine zxt <| ztx <| ztx <| zbh <| ztn <| zsr ?_
  refine zs2 ?_
  refine zlt <| zrt <| zf1 ⟨_, rfl, ?_⟩
  obtain rfl : i = t.nb := by omega
  exact ⟨by rw [hr], hS.nl⟩

set_option maxRecDepth 20000 in
theorem c_rnext {vB vF vC : Value} {vv : Int → Value} {t : Tb} (w0 : World) (hT : TAt w0 vB vF vC vv t) :
    Calls Try.prog 124 [.agg #[.int .i64 t.vars, .int .i64 t.den, vB, vF, vC]].toArray w0 fun e w => ∃ v, e = .returned v ∧ ∃ r c d e, v = .tuple #[.int .i64 r, .int .i64 c, .bool d, .int .i64 e] ∧ NextR t r c d e ∧ Sat w0 w [] := by
  have hn := hT.F.slh.n0; have hn1 := hT.F.slh.n1; have hb := hT.B.slh.n0; have hb1 := hT.B.slh.n1; have hc0 := hT.C.row.slh.n0; have hc1 := hT.C.row.slh.n1
  refine zenG Try.func124 Try.ntmps124 fun w hS => ?_
  refine zsr ?_
  refine zla (xbx (cs := [_, _, _, _, _]) hS) ?_; rintro _ w ⟨g1, rfl, hS⟩
  replace hS := hS.n1
  refine zs4 ?_
  refine zlt <| zsq <| zsr ?_
  refine zlv (xls 0 st_25 hS) ?_
  refine zlc (xc0 cl_62) (c_rproper (t := t) w (hT.below hS.below)) ?_; rintro _ w ⟨rfl, hS'⟩
  replace hS := hS.cmp hS'; clear hS'
  refine zs2 ?_
  refine zlb 15 ?_ ?_ <;> intro hc
  ·
   iterate 7 refine zlo ?_
   refine zlv xpt ?_
   refine zlt <| zct <| zsr ?_
   refine zs4 ?_
   refine zlt <| zrt <| ztr <| zf4 ⟨_, rfl, ?_⟩
   refine ⟨_, _, _, _, rfl, .inl ⟨?_, rfl, rfl, rfl, rfl⟩, hS.nl⟩
   first | exact fun hh => absurd hh.1 ‹_› | (rintro ⟨_, hco⟩; exact absurd (show ∀ k, 0 ≤ k → k < t.ln 0 - 1 → 0 ≤ t.C 0 (k + 1) ∧ t.C 0 (k + 1) ≤ 1073741824 from fun k k0 k1 => ⟨hco (k + 1) (by omega) (by omega), (hp.cell (i := 0) (j := k + 1) (by omega) (by omega) (by omega) (by omega)).2⟩) (by assumption))
  refine zlv (xfb 4 fd_25_4) ?_
  refine zlv (xlb 0 pl_23 hS) ?_
  have hp : TPrp t := by first | assumption | exact Classical.not_not.1 ‹¬ ¬ (TPrp t)›
  have b1 := hp.n1
  have b2 := hp.n2
  have b3 := hp.m2
  have b4 := hp.v
  have b5 := hp.d1
  have b6 := hp.d2
  have b7 := hp.c
  have hl0 := hp.len (i := 0) (by omega) (by omega)
  refine zlv (xix (kk := 0) sl_23 hT.C.row.slh) ?_
  refine zlv (xlr (u := (vv 0)) pl_22 (hT.C.row.below hS.below)) ?_
  refine zlvr rfl rfl rfl (ex_slice_lo (q := 1) rfl sl_22 rfl rfl rfl (hT.C.p 0 (by omega) (by omega)).slh rfl (by omega) (by omega)) ?_
  refine zlc (xc0 cl_68) (c_within (n := ((t.ln 0) - 1)) (lo := 0) (hi := 1073741824) (f := (fun k => (t.C 0) (k + 1))) w ((suf_of (q := 1) (hT.C.p 0 (by omega) (by omega)).slh (hT.C.room 0 (by omega) (by omega)) (by omega)).row (by omega) ((hT.C.p 0 (by omega) (by omega)).below hS.below))) ?_; rintro _ w ⟨rfl, hS'⟩
  replace hS := hS.cmp hS'; clear hS'
  refine zs2 ?_
  refine zlt ?_
  refine zcif ?_ ?_ <;> intro hc
  ·
   refine zsr ?_
   refine zs4 ?_
   refine zlt <| zrt <| ztr <| zf4 ⟨_, rfl, ?_⟩
   refine ⟨_, _, _, _, rfl, .inl ⟨?_, rfl, rfl, rfl, rfl⟩, hS.nl⟩
   first | exact fun hh => absurd hh.1 ‹_› | (rintro ⟨_, hco⟩; exact absurd (show ∀ k, 0 ≤ k → k < t.ln 0 - 1 → 0 ≤ t.C 0 (k + 1) ∧ t.C 0 (k + 1) ≤ 1073741824 from fun k k0 k1 => ⟨hco (k + 1) (by omega) (by omega), (hp.cell (i := 0) (j := k + 1) (by omega) (by omega) (by omega) (by omega)).2⟩) (by assumption))
  refine zsk <| ztn <| zsr ?_
  refine zlv (xls 0 st_25 hS) ?_
  have hcq : ∀ k, 0 ≤ k → k < t.ln 0 - 1 → 0 ≤ t.C 0 (k + 1) ∧ t.C 0 (k + 1) ≤ 1073741824 := by first | assumption | exact Classical.not_not.1 ‹_›
  have hrr := leav_rng t t.nb.toNat
  refine zlc (xc0 cl_133) (c_leaving (t := t) w (hT.below hS.below) hp) ?_; rintro _ w ⟨rfl, hS'⟩
  replace hS := hS.cmp hS'; clear hS'
  refine zlv xas ?_
  refine zlt <| zsq <| zsr ?_
  refine zs2 ?_
  refine zlt ?_
  refine zcif ?_ ?_ <;> intro hc
  ·
   refine zsr ?_
   refine zs4 ?_
   refine zlt <| zrt <| ztr <| zf4 ⟨_, rfl, ?_⟩
   exact ⟨_, _, _, _, rfl, .inr (.inl ⟨hp, (fun j j0 j1 => by have := hcq (j - 1) (by omega) (by omega); rw [show j - 1 + 1 = j by omega] at this; omega), by omega, rfl, rfl, rfl, rfl⟩), hS.nl⟩
  refine zsk <| ztn <| zsr ?_
  refine zlv xas ?_
  refine zlt <| zsq <| zsr ?_
  refine zlv xas ?_
  refine zlt <| zbk <| zlp (fun mm M w => ∃ (c : Int) (j : Int), mm = ((t.nf - j).toNat) ∧ (0 ≤ j) ∧ (j ≤ t.nf) ∧ (c = entr t (leav t t.nb.toNat) j.toNat) ∧ M = [(1, .pointer (some ⟨g1, 0, none⟩)), (2, .int .i64 0), (3, .int .i64 0), (4, .bool false), (5, .int .i64 0), (6, .int .i64 (leav t t.nb.toNat)), (7, .int .i64 c), (8, .int .i64 j)] ∧ Sat w0 w [.blk g1 [.int .i64 t.vars, .int .i64 t.den, vB, vF, vC]]) ⟨(-1), 0, rfl, (by omega), (by omega), ?_, rfl, hS⟩ ?_
  ·
   rfl
  clear hS w
  rintro mm M w ⟨c, j, rfl, j0, j1, hcc, rfl, hS⟩
  have hcr := entr_rng t (leav t t.nb.toNat) j.toNat; rw [← hcc] at hcr
  refine zsq <| zsr ?_
  refine zlv xmv ?_
  refine zlv (xfb 3 fd_25_3) ?_
  refine zlv (xlb 0 pl_22 hS) ?_
  refine zlv (xln sl_22 hT.F.slh) ?_
  refine zlv xlss ?_
  refine zlt ?_
  refine zcif ?_ ?_ <;> intro hc
  ·
   refine zsk <| ztn <| zsq <| zbk <| zsr ?_
   refine zlv (xfb 4 fd_25_4) ?_
   refine zlv (xlb 0 pl_23 hS) ?_
   refine zlv xmv ?_
   have hlr := hp.len (i := (leav t t.nb.toNat) + 1) (by omega) (by omega)
   refine zlv (xadd (r := (leav t t.nb.toNat) + 1)) ?_
   refine zlv (xix (kk := (leav t t.nb.toNat) + 1) sl_23 hT.C.row.slh) ?_
   refine zlv (xlr (u := (vv ((leav t t.nb.toNat) + 1))) pl_22 (hT.C.row.below hS.below)) ?_
   refine zlv xmv ?_
   refine zlv (xadd (r := j + 1)) ?_
   refine zlv (xix (kk := j + 1) sl_22 (hT.C.p ((leav t t.nb.toNat) + 1) (by omega) (by omega)).slh) ?_
   refine zlv (xlr (u := .int .i64 ((t.C ((leav t t.nb.toNat) + 1)) (j + 1))) pl_3 ((hT.C.p ((leav t t.nb.toNat) + 1) (by omega) (by omega)).below hS.below)) ?_
   refine zlv xas ?_
   refine zlt <| zsq <| zsr ?_
   refine zs2 ?_
   refine zlt ?_
   refine zcif ?_ ?_ <;> intro hc
   ·
    refine zxt <| ztx <| zbh <| ztn <| zrg ?_
    refine zlv xmv ?_
    refine zlv (xadd (r := j + 1)) ?_
    refine zlv xas ?_
    refine zln <| zlq ⟨c, j + 1, rfl, (by omega), (by omega), ?_, rfl, hS⟩
    ·
     rw [entr_next t (leav t t.nb.toNat) j0, ← hcc]; (repeat' split) <;> omega
   refine zsk <| ztn <| zsq <| zsr ?_
   refine zs2 ?_
   refine zlt ?_
   refine zcif ?_ ?_ <;> intro hc
   ·
    refine zsr ?_
    refine zs2 ?_
    refine zlt <| zxt <| ztx <| zbh <| ztn <| zrg ?_
    refine zlv xmv ?_
    refine zlv (xadd (r := j + 1)) ?_
    refine zlv xas ?_
    refine zln <| zlq ⟨j, j + 1, rfl, (by omega), (by omega), ?_, rfl, hS⟩
    ·
     rw [entr_next t (leav t t.nb.toNat) j0, ← hcc]; (repeat' split) <;> omega
   refine zsk <| ztn <| zsq ?_
   refine zdst [0] [0] 1000 mx_ hS ?_; clear hS; intro w hS
   refine zdv 0 (fun _ => (xfb 4 fd_25_4)) ?_
   refine zdla 1 (fun w hS => (xlb 0 pl_23 hS)) ?_
   refine zdv 2 (fun _ => (xix (kk := 0) sl_23 hT.C.row.slh)) ?_
   refine zdla 3 (fun w hS => (xlr (u := (vv 0)) pl_22 (hT.C.row.below hS.below))) ?_
   refine zdv 4 (fun _ => xmv) ?_
   have hcr := entr_rng t (leav t t.nb.toNat) j.toNat; rw [← hcc] at hcr
   have hm1 := mul_abs (hp.cell (i := 0) (j := j + 1) (by omega) (by omega) (by omega) (by omega)) (hp.cell (i := (leav t t.nb.toNat) + 1) (j := c + 1) (by omega) (by omega) (by omega) (by omega)); have hm2 := mul_abs (hp.cell (i := 0) (j := c + 1) (by omega) (by omega) (by omega) (by omega)) (hp.cell (i := (leav t t.nb.toNat) + 1) (j := j + 1) (by omega) (by omega) (by omega) (by omega))
   refine zdv 5 (fun _ => (xadd (r := j + 1))) ?_
   refine zdv 6 (fun _ => (xix (kk := j + 1) sl_22 (hT.C.p 0 (by omega) (by omega)).slh)) ?_
   refine zdla 7 (fun w hS => (xlr (u := .int .i64 ((t.C 0) (j + 1))) pl_3 ((hT.C.p 0 (by omega) (by omega)).below hS.below))) ?_
   refine zdv 8 (fun _ => (xfb 4 fd_25_4)) ?_
   refine zdla 9 (fun w hS => (xlb 0 pl_23 hS)) ?_
   refine zdv 10 (fun _ => xmv) ?_
   refine zdv 11 (fun _ => (xadd (r := (leav t t.nb.toNat) + 1))) ?_
   refine zdv 12 (fun _ => (xix (kk := (leav t t.nb.toNat) + 1) sl_23 hT.C.row.slh)) ?_
   refine zdla 13 (fun w hS => (xlr (u := (vv ((leav t t.nb.toNat) + 1))) pl_22 (hT.C.row.below hS.below))) ?_
   refine zdv 14 (fun _ => xmv) ?_
   refine zdv 15 (fun _ => (xadd (r := c + 1))) ?_
   refine zdv 16 (fun _ => (xix (kk := c + 1) sl_22 (hT.C.p ((leav t t.nb.toNat) + 1) (by omega) (by omega)).slh)) ?_
   refine zdla 17 (fun w hS => (xlr (u := .int .i64 ((t.C ((leav t t.nb.toNat) + 1)) (c + 1))) pl_3 ((hT.C.p ((leav t t.nb.toNat) + 1) (by omega) (by omega)).below hS.below))) ?_
   refine zdv 18 (fun _ => (xmul (r := (((t.C 0) (j + 1)) * ((t.C ((leav t t.nb.toNat) + 1)) (c + 1)))) (e := rfl))) ?_
   refine zdv 19 (fun _ => (xfb 4 fd_25_4)) ?_
   refine zdla 20 (fun w hS => (xlb 0 pl_23 hS)) ?_
   refine zdv 21 (fun _ => (xix (kk := 0) sl_23 hT.C.row.slh)) ?_
   refine zdla 22 (fun w hS => (xlr (u := (vv 0)) pl_22 (hT.C.row.below hS.below))) ?_
   refine zdv 23 (fun _ => xmv) ?_
   refine zdv 24 (fun _ => (xadd (r := c + 1))) ?_
   refine zdv 25 (fun _ => (xix (kk := c + 1) sl_22 (hT.C.p 0 (by omega) (by omega)).slh)) ?_
   refine zdla 26 (fun w hS => (xlr (u := .int .i64 ((t.C 0) (c + 1))) pl_3 ((hT.C.p 0 (by omega) (by omega)).below hS.below))) ?_
   refine zdv 27 (fun _ => xmv) ?_
   refine zdv 28 (fun _ => (xmul (r := (((t.C 0) (c + 1)) * ((t.C ((leav t t.nb.toNat) + 1)) (j + 1)))) (e := rfl))) ?_
   refine zdv 29 (fun _ => xas) ?_
   refine zdv 30 (fun _ => xas) ?_
   refine zdd <| ztn <| zsq ?_
   refine zdst [0] [0] 1000 mx_ hS ?_; clear hS; intro w hS
   refine zdv 0 (fun _ => xmv) ?_
   have hne : t.F j ≠ t.F c := fun hh => by have := hp.injF (i := j) (j := c) (by omega) (by omega) (by omega) (by omega) (by omega) hh; omega
   refine zdv 1 (fun _ => xmv) ?_
   refine zdv 2 (fun _ => xlss) ?_
   refine zdv 3 (fun _ => xmv) ?_
   refine zdb 82 ?_ ?_ <;> intro hc
   ·
    refine zdof 4 ?_
    refine zdof 5 ?_
    refine zdof 6 ?_
    refine zdof 7 ?_
    refine zdof 8 ?_
    refine zdof 9 ?_
    refine zdof 10 ?_
    refine zdof 11 ?_
    refine zdof 12 ?_
    refine zdof 13 ?_
    refine zdof 14 ?_
    refine zdof 15 ?_
    refine zdof 16 ?_
    refine zdof 17 ?_
    refine zdof 18 ?_
    refine zdof 19 ?_
    refine zdv 20 (fun _ => xpt) ?_
    refine zdd <| ztn <| zct <| zrg ?_
    refine zs2 ?_
    refine zln <| zbn <| ztn <| zrg ?_
    refine zlv xmv ?_
    refine zlv (xadd (r := j + 1)) ?_
    refine zlv xas ?_
    refine zln <| zlq ⟨j, j + 1, rfl, (by omega), (by omega), ?_, rfl, hS⟩
    ·
     rw [entr_next t (leav t t.nb.toNat) j0, ← hcc]; (repeat' split) <;> omega
   refine zdv 4 (fun _ => xmv) ?_
   refine zdv 5 (fun _ => xmv) ?_
   refine zdv 6 (fun _ => xeql) ?_
   refine zdv 7 (fun _ => xmv) ?_
   refine zdb 86 ?_ ?_ <;> intro hc
   ·
    refine zdv 8 (fun _ => (xfb 3 fd_25_3)) ?_
    refine zdla 9 (fun w hS => (xlb 0 pl_22 hS)) ?_
    refine zdv 10 (fun _ => xmv) ?_
    refine zdv 11 (fun _ => (xix (kk := j) sl_22 hT.F.slh)) ?_
    refine zdla 12 (fun w hS => (xlr (u := .int .i64 (t.F j)) pl_3 (hT.F.below hS.below))) ?_
    refine zdv 13 (fun _ => (xfb 3 fd_25_3)) ?_
    refine zdla 14 (fun w hS => (xlb 0 pl_22 hS)) ?_
    refine zdv 15 (fun _ => xmv) ?_
    refine zdv 16 (fun _ => (xix (kk := c) sl_22 hT.F.slh)) ?_
    refine zdla 17 (fun w hS => (xlr (u := .int .i64 (t.F c)) pl_3 (hT.F.below hS.below))) ?_
    refine zdv 18 (fun _ => xlss) ?_
    refine zdv 19 (fun _ => xpt) ?_
    refine zdv 20 (fun _ => xpf) ?_
    refine zdd <| ztn ?_
    refine zcif ?_ ?_ <;> intro hc
    ·
     refine zrg ?_
     refine zs2 ?_
     refine zln <| zbn <| ztn <| zrg ?_
     refine zlv xmv ?_
     refine zlv (xadd (r := j + 1)) ?_
     refine zlv xas ?_
     refine zln <| zlq ⟨j, j + 1, rfl, (by omega), (by omega), ?_, rfl, hS⟩
     ·
      rw [entr_next t (leav t t.nb.toNat) j0, ← hcc]; (repeat' split) <;> omega
    refine zsk <| zbn <| ztn <| zrg ?_
    refine zlv xmv ?_
    refine zlv (xadd (r := j + 1)) ?_
    refine zlv xas ?_
    refine zln <| zlq ⟨c, j + 1, rfl, (by omega), (by omega), ?_, rfl, hS⟩
    ·
     rw [entr_next t (leav t t.nb.toNat) j0, ← hcc]; (repeat' split) <;> omega
   refine zdof 8 ?_
   refine zdof 9 ?_
   refine zdof 10 ?_
   refine zdof 11 ?_
   refine zdof 12 ?_
   refine zdof 13 ?_
   refine zdof 14 ?_
   refine zdof 15 ?_
   refine zdof 16 ?_
   refine zdof 17 ?_
   refine zdof 18 ?_
   refine zdv 19 (fun _ => xpf) ?_
   refine zdv 20 (fun _ => xpf) ?_
   refine zdd <| ztn <| zcf <| zsk <| zbn <| ztn <| zrg ?_
   refine zlv xmv ?_
   refine zlv (xadd (r := j + 1)) ?_
   refine zlv xas ?_
   refine zln <| zlq ⟨c, j + 1, rfl, (by omega), (by omega), ?_, rfl, hS⟩
   ·
    rw [entr_next t (leav t t.nb.toNat) j0, ← hcc]; (repeat' split) <;> omega
  refine zxt <| ztx <| ztx <| zbh <| ztn <| zsq <| zsr ?_
  refine zs2 ?_
  refine zlt ?_
  refine zcif ?_ ?_ <;> intro hc
  ·
   refine zsr ?_
   refine zs4 ?_
   refine zlt <| zrt <| ztr <| zf4 ⟨_, rfl, ?_⟩
   obtain rfl : j = t.nf := by omega
   exact ⟨_, _, _, _, rfl, .inr (.inr (.inl ⟨hp, (fun j j0 j1 => by have := hcq (j - 1) (by omega) (by omega); rw [show j - 1 + 1 = j by omega] at this; omega), by omega, by omega, rfl, rfl, rfl, rfl⟩)), hS.nl⟩
  refine zsk <| ztn <| zsr ?_
  refine zs6 ?_
  refine zlt <| zrt <| zf4 ⟨_, rfl, ?_⟩
  obtain rfl : j = t.nf := by omega
  exact ⟨_, _, _, _, rfl, .inr (.inr (.inr ⟨hp, (fun j j0 j1 => by have := hcq (j - 1) (by omega) (by omega); rw [show j - 1 + 1 = j by omega] at this; omega), by omega, by omega, rfl, hcc, rfl, rfl⟩)), hS.nl⟩

set_option maxRecDepth 20000 in
theorem c_cell {vB vF vC : Value} {vv : Int → Value} {t : Tb} {i j r s : Int} (w0 : World) (hT : TAt w0 vB vF vC vv t) (hp : TPrp t) (i0 : 0 ≤ i) (i1 : i ≤ t.nb) (j0 : 0 ≤ j) (j1 : j ≤ t.nf) (r0 : 0 ≤ r) (r1 : r ≤ t.nb) (s0 : 0 ≤ s) (s1 : s ≤ t.nf) :
    Calls Try.prog 134 [.agg #[.int .i64 t.vars, .int .i64 t.den, vB, vF, vC], .int .i64 i, .int .i64 j, .int .i64 r, .int .i64 s].toArray w0 fun e w => ∃ v, e = .returned v ∧ ∃ (n : Int) (ok : Value), v = .tuple #[.int .i64 n, ok] ∧ n = pcell t r s i j ∧ ok = B (divs t r s i j) ∧ Sat w0 w [] := by
  have hn := hT.F.slh.n0; have hn1 := hT.F.slh.n1; have hb := hT.B.slh.n0; have hb1 := hT.B.slh.n1; have hc0 := hT.C.row.slh.n0; have hc1 := hT.C.row.slh.n1
  have b1 := hp.n1; have b2 := hp.n2; have b3 := hp.m2; have b4 := hp.v; have b5 := hp.d1; have b6 := hp.d2; have b7 := hp.c
  have hc1x := hp.cell (i := r) (j := s) (by omega) (by omega) (by omega) (by omega); have hc2x := hp.cell (i := i) (j := j) (by omega) (by omega) (by omega) (by omega); have hc3x := hp.cell (i := i) (j := s) (by omega) (by omega) (by omega) (by omega); have hc4x := hp.cell (i := r) (j := j) (by omega) (by omega) (by omega) (by omega)
  have hm1 := mul_abs hc1x hc2x; have hm2 := mul_abs hc3x hc4x; have hli := hp.len (i := i) (by omega) (by omega); have hlr := hp.len (i := r) (by omega) (by omega)
  have hqd := tdiv_abs (a := t.C r s * t.C i j - t.C i s * t.C r j) (d := t.den) (A := 2305843009213693952) (by omega) (by omega)
  refine zenG Try.func134 Try.ntmps134 fun w hS => ?_
  refine zsr ?_
  refine zla (xbx (cs := [_, _, _, _, _]) hS) ?_; rintro _ w ⟨g1, rfl, hS⟩
  replace hS := hS.n1
  refine zs2 ?_
  refine zlz ?_
  refine zlv (xfb 4 fd_25_4) ?_
  refine zlv (xlb 0 pl_23 hS) ?_
  refine zlv xmv ?_
  refine zlv (xix (kk := r) sl_23 hT.C.row.slh) ?_
  refine zlv (xlr (u := (vv r)) pl_22 (hT.C.row.below hS.below)) ?_
  refine zlv xmv ?_
  refine zlv (xix (kk := s) sl_22 (hT.C.p r (by omega) (by omega)).slh) ?_
  refine zlv (xlr (u := .int .i64 ((t.C r) s)) pl_3 ((hT.C.p r (by omega) (by omega)).below hS.below)) ?_
  refine zlv xas ?_
  refine zlt <| zsq <| zbk <| zsr ?_
  refine zs4 ?_
  refine zlb 26 ?_ ?_ <;> intro hc
  ·
   refine zs5 ?_
   refine zlt ?_
   refine zcif ?_ ?_ <;> intro hc
   ·
    refine zsr ?_
    refine zlv (xfb 1 fd_25_1) ?_
    refine zlv (xlb 0 pl_3 hS) ?_
    refine zs2 ?_
    refine zlt <| zrt <| zbr <| ztr <| zf2 ⟨_, rfl, ?_⟩
    skip
    exact ⟨(_), _, rfl, by unfold pcell; first | exact (if_pos ⟨by omega, by omega⟩).symm | (rw [if_neg (by omega)]; exact (if_pos (by omega)).symm) | (rw [if_neg (by omega), if_neg (by omega)]; exact (if_pos (by omega)).symm), true_B (fun h1 h2 => by omega), hS.nl⟩
   refine zsr ?_
   refine zs2 ?_
   refine zlv (xkt xeql) ?_
   refine zlv xas ?_
   refine zlt <| zct <| zsr ?_
   refine zlv (xfb 4 fd_25_4) ?_
   refine zlv (xlb 0 pl_23 hS) ?_
   refine zlv xmv ?_
   refine zlv (xix (kk := r) sl_23 hT.C.row.slh) ?_
   refine zlv (xlr (u := (vv r)) pl_22 (hT.C.row.below hS.below)) ?_
   refine zlv xmv ?_
   refine zlv (xix (kk := j) sl_22 (hT.C.p r (by omega) (by omega)).slh) ?_
   refine zlv (xlr (u := .int .i64 ((t.C r) j)) pl_3 ((hT.C.p r (by omega) (by omega)).below hS.below)) ?_
   refine zlv (xneg (r := -(((t.C r) j)))) ?_
   refine zs2 ?_
   refine zlt <| zrt <| zbr <| ztr <| zf2 ⟨_, rfl, ?_⟩
   obtain rfl : i = r := by omega
   skip
   exact ⟨(_), _, rfl, by unfold pcell; first | exact (if_pos ⟨by omega, by omega⟩).symm | (rw [if_neg (by omega)]; exact (if_pos (by omega)).symm) | (rw [if_neg (by omega), if_neg (by omega)]; exact (if_pos (by omega)).symm), true_B (fun h1 h2 => by omega), hS.nl⟩
  iterate 3 refine zlo ?_
  refine zs2 ?_
  refine zlt <| zcf <| zsr ?_
  refine zs4 ?_
  refine zlt ?_
  refine zcif ?_ ?_ <;> intro hc
  ·
   exfalso; omega
  refine zsr ?_
  refine zs4 ?_
  refine zlt ?_
  refine zcif ?_ ?_ <;> intro hc
  ·
   refine zsr ?_
   refine zlv (xfb 4 fd_25_4) ?_
   refine zlv (xlb 0 pl_23 hS) ?_
   refine zlv xmv ?_
   refine zlv (xix (kk := i) sl_23 hT.C.row.slh) ?_
   refine zlv (xlr (u := (vv i)) pl_22 (hT.C.row.below hS.below)) ?_
   refine zlv xmv ?_
   refine zlv (xix (kk := s) sl_22 (hT.C.p i (by omega) (by omega)).slh) ?_
   refine zlv (xlr (u := .int .i64 ((t.C i) s)) pl_3 ((hT.C.p i (by omega) (by omega)).below hS.below)) ?_
   refine zs2 ?_
   refine zlt <| zrt <| zbr <| ztr <| zf2 ⟨_, rfl, ?_⟩
   obtain rfl : j = s := by omega
   skip
   exact ⟨(_), _, rfl, by unfold pcell; first | exact (if_pos ⟨by omega, by omega⟩).symm | (rw [if_neg (by omega)]; exact (if_pos (by omega)).symm) | (rw [if_neg (by omega), if_neg (by omega)]; exact (if_pos (by omega)).symm), true_B (fun h1 h2 => by omega), hS.nl⟩
  refine zsk <| zbn <| ztn <| zsq ?_
  refine zdst [0] [0] 1000 mx_ hS ?_; clear hS; intro w hS
  refine zdv 0 (fun _ => xmv) ?_
  refine zdv 1 (fun _ => (xfb 4 fd_25_4)) ?_
  refine zdla 2 (fun w hS => (xlb 0 pl_23 hS)) ?_
  refine zdv 3 (fun _ => xmv) ?_
  refine zdv 4 (fun _ => (xix (kk := i) sl_23 hT.C.row.slh)) ?_
  refine zdla 5 (fun w hS => (xlr (u := (vv i)) pl_22 (hT.C.row.below hS.below))) ?_
  refine zdv 6 (fun _ => xmv) ?_
  refine zdv 7 (fun _ => (xix (kk := j) sl_22 (hT.C.p i (by omega) (by omega)).slh)) ?_
  refine zdla 8 (fun w hS => (xlr (u := .int .i64 ((t.C i) j)) pl_3 ((hT.C.p i (by omega) (by omega)).below hS.below))) ?_
  refine zdv 9 (fun _ => (xmul (r := (((t.C r) s) * ((t.C i) j))) (e := rfl))) ?_
  refine zdv 10 (fun _ => (xfb 4 fd_25_4)) ?_
  refine zdla 11 (fun w hS => (xlb 0 pl_23 hS)) ?_
  refine zdv 12 (fun _ => xmv) ?_
  refine zdv 13 (fun _ => (xix (kk := i) sl_23 hT.C.row.slh)) ?_
  refine zdla 14 (fun w hS => (xlr (u := (vv i)) pl_22 (hT.C.row.below hS.below))) ?_
  refine zdv 15 (fun _ => xmv) ?_
  refine zdv 16 (fun _ => (xix (kk := s) sl_22 (hT.C.p i (by omega) (by omega)).slh)) ?_
  refine zdla 17 (fun w hS => (xlr (u := .int .i64 ((t.C i) s)) pl_3 ((hT.C.p i (by omega) (by omega)).below hS.below))) ?_
  refine zdv 18 (fun _ => (xfb 4 fd_25_4)) ?_
  refine zdla 19 (fun w hS => (xlb 0 pl_23 hS)) ?_
  refine zdv 20 (fun _ => xmv) ?_
  refine zdv 21 (fun _ => (xix (kk := r) sl_23 hT.C.row.slh)) ?_
  refine zdla 22 (fun w hS => (xlr (u := (vv r)) pl_22 (hT.C.row.below hS.below))) ?_
  refine zdv 23 (fun _ => xmv) ?_
  refine zdv 24 (fun _ => (xix (kk := j) sl_22 (hT.C.p r (by omega) (by omega)).slh)) ?_
  refine zdla 25 (fun w hS => (xlr (u := .int .i64 ((t.C r) j)) pl_3 ((hT.C.p r (by omega) (by omega)).below hS.below))) ?_
  refine zdv 26 (fun _ => (xmul (r := (((t.C i) s) * ((t.C r) j))) (e := rfl))) ?_
  refine zdv 27 (fun _ => (xsub (r := (((t.C r) s) * ((t.C i) j)) - (((t.C i) s) * ((t.C r) j))))) ?_
  refine zdv 28 (fun _ => xas) ?_
  refine zdd <| ztn <| zsq ?_
  refine zdst [0] [0] 1000 mx_ hS ?_; clear hS; intro w hS
  refine zdv 0 (fun _ => xmv) ?_
  refine zdv 1 (fun _ => (xfb 1 fd_25_1)) ?_
  refine zdla 2 (fun w hS => (xlb 0 pl_3 hS)) ?_
  refine zdv 3 (fun _ => (xquo (r := (Int.tdiv ((((t.C r) s) * ((t.C i) j)) - (((t.C i) s) * ((t.C r) j))) t.den)))) ?_
  refine zdv 4 (fun _ => xmv) ?_
  refine zdv 5 (fun _ => (xfb 1 fd_25_1)) ?_
  refine zdla 6 (fun w hS => (xlb 0 pl_3 hS)) ?_
  refine zdv 7 (fun _ => (xrem (r := (Int.tmod ((((t.C r) s) * ((t.C i) j)) - (((t.C i) s) * ((t.C r) j))) t.den)))) ?_
  refine zdv 8 (fun _ => xeql) ?_
  refine zdv 9 (fun _ => xas) ?_
  refine zdv 10 (fun _ => xas) ?_
  refine zdd <| ztn <| zrt <| zf2 ⟨_, rfl, ?_⟩
  exact ⟨_, _, rfl, by unfold pcell; rw [if_neg (by omega), if_neg (by omega), if_neg (by omega)], B_congr ⟨fun h _ _ => h, fun h => h (by omega) (by omega)⟩, hS.nl⟩

end Go.Proofs.Ytelfplepnodbgaa
