/- The walk of TableauPrices. -/
import Derived.Test.YtakgjpmhbfieeaaGc
import Derived.Test.YtakgjpmhbfieeaaW11
import Derived.Test.YtakgjpmhbfieeaaFz
namespace Go.Proofs.Ytakgjpmhbfieeaa
open Go Go.RowKit Go.Proofs.Gw
set_option linter.unusedVariables false

theorem cl_12 : calledT Try.prog 12 = true := by kernel_rfl
theorem cl_13 : calledT Try.prog 13 = true := by kernel_rfl
theorem cl_14 : calledT Try.prog 14 = true := by kernel_rfl
theorem cl_16 : calledT Try.prog 16 = true := by kernel_rfl
theorem cl_39 : calledT Try.prog 39 = true := by kernel_rfl
theorem el_25 : elemT Try.prog 25 = some (.agg #[.slice none 0 0, .slice none 0 0, .slice none 0 0], 3, 72) := by kernel_rfl
theorem fd_25_0 : fieldT Try.prog 25 0 = some 0 := by kernel_rfl
theorem fd_25_1 : fieldT Try.prog 25 1 = some 1 := by kernel_rfl
theorem fd_25_2 : fieldT Try.prog 25 2 = some 2 := by kernel_rfl
theorem it_3 : Try.prog.underlying 3 = some (.int .i64) := by kernel_rfl
theorem so_5 : (Try.prog.underlying 5).isSome = true := by kernel_rfl
theorem st_25 : structT Try.prog 25 = some 3 := by kernel_rfl
set_option maxRecDepth 20000 in
theorem c_few {vc vA vb : Value} {vq : Int → Value} {p : Lp} (w0 : World) (hL : LAt w0 vc vA vb vq p) :
    Calls Try.prog 13 [.agg #[vc, vA, vb]].toArray w0 fun e w => ∃ v, e = .returned v ∧ v = B (FewP p) ∧ Sat w0 w [] := by
  have hn := hL.c.slh.n0; have hn1 := hL.c.slh.n1; have hm := hL.A.row.slh.n0; have hm1 := hL.A.row.slh.n1; have hk := hL.b.slh.n0; have hk1 := hL.b.slh.n1
  refine zenG Try.func13 Try.ntmps13 fun w hS => ?_
  refine zsq <| zrg ?_
  refine zla (xbx (cs := [_, _, _]) hS) ?_; rintro _ w ⟨g1, rfl, hS⟩
  replace hS : Sat w0 w [.blk _ [_, _, _]] := hS
  refine zlv xas ?_
  refine zln <| ztn <| zsq <| zsq <| zrg ?_
  refine zlv xas ?_
  refine zln <| ztn <| zbk <| zlp (fun mm M w => ∃ (i : Int), mm = ((p.m - i).toNat) ∧ (0 ≤ i) ∧ (i ≤ p.m) ∧ (∀ k, 0 ≤ k → k < i → p.ln k ≤ 20) ∧ M = [(1, .pointer (some ⟨g1, 0, none⟩)), (3, .int .i64 i)] ∧ Sat w0 w [.blk g1 [vc, vA, vb]]) ⟨0, rfl, (by omega), (by omega), ?_, rfl, hS⟩ ?_
  ·
   intro k k0 k1; omega
  ·
   clear hS w
   rintro mm M w ⟨i, rfl, h0, h1, hall, rfl, hS⟩
   refine zsq <| zsq <| zrg ?_
   refine zlv xmv ?_
   refine zlv (xfb 1 fd_25_1) ?_
   refine zlv (xlb 0 pl_23 hS) ?_
   refine zlv (xln sl_23 hL.A.row.slh) ?_
   refine zlv xlss ?_
   refine zln <| ztn ?_
   refine zcif ?_ ?_ <;> intro hc
   ·
    refine zsk <| ztn <| zsq <| zbk <| zsq <| zrg ?_
    refine zlv (xfb 1 fd_25_1) ?_
    refine zlv (xlb 0 pl_23 hS) ?_
    refine zlv xmv ?_
    refine zlv (xix (kk := i) sl_23 hL.A.row.slh) ?_
    refine zlv (xlr (u := (vq i)) pl_22 (hL.A.row.below hS.below)) ?_
    refine zlv (xln sl_22 (hL.A.p i (by omega) (by omega)).slh) ?_
    refine zlv xgtr ?_
    refine zln <| ztn ?_
    refine zcif ?_ ?_ <;> intro hc
    ·
     refine zsq <| zrg ?_
     refine zlv xas ?_
     refine zln <| ztn <| zrt <| zbr <| ztr <| ztr <| zbr <| ztr <| zf1 ⟨_, rfl, ?_⟩
     exact ⟨false_B (by rintro ⟨h1, h2, h3, h4⟩; first | omega | (have := h1 i h0 (by omega); omega)), hS.nl⟩
    ·
     refine zsk <| zbn <| ztn <| zrg ?_
     refine zlv xmv ?_
     refine zlv (xadd (r := i + 1)) ?_
     refine zlv xas ?_
     refine zln <| zlq ⟨i + 1, rfl, (by omega), (by omega), ?_, rfl, hS⟩
     ·
      intro k h0' h1'; rcases Int.lt_or_eq_of_le (show k ≤ i by omega) with hk | hk; exact hall k h0' hk; rw [hk]; omega
   ·
    refine zxt <| ztx <| ztx <| zbh <| ztn <| zsq <| zrg ?_
    refine zlv (xfb 0 fd_25_0) ?_
    refine zlv (xlb 0 pl_22 hS) ?_
    refine zlv (xln sl_22 hL.c.slh) ?_
    refine zlv xleq ?_
    refine zlv xmv ?_
    refine zlb 22 ?_ ?_ <;> intro hc
    ·
     refine zlv (xfb 1 fd_25_1) ?_
     refine zlv (xlb 0 pl_23 hS) ?_
     refine zlv (xln sl_23 hL.A.row.slh) ?_
     refine zlv xleq ?_
     refine zlv xpt ?_
     refine zlv xmv ?_
     refine zlb 28 ?_ ?_ <;> intro hc
     ·
      refine zlv (xfb 2 fd_25_2) ?_
      refine zlv (xlb 0 pl_22 hS) ?_
      refine zlv (xln sl_22 hL.b.slh) ?_
      refine zlv xleq ?_
      refine zlv xpt ?_
      refine zlv xas ?_
      refine zln <| ztn <| zrt <| zf1 ⟨_, rfl, ?_⟩
      exact ⟨B_congr ⟨fun hx => ⟨fun k k0 k1 => hall k k0 (by omega), by omega, by omega, by omega⟩, fun h => by have h1 := h.2.1; have h2 := h.2.2.1; have h3 := h.2.2.2; omega⟩, hS.nl⟩
     ·
      iterate 4 refine zlo ?_
      refine zlv xpf ?_
      refine zlv xas ?_
      refine zln <| ztn <| zrt <| zf1 ⟨_, rfl, ?_⟩
      exact ⟨false_B (by rintro ⟨h1, h2, h3, h4⟩; first | omega | (have := h1 i h0 (by omega); omega)), hS.nl⟩
    ·
     iterate 4 refine zlo ?_
     refine zlv xpf ?_
     refine zlv xmv ?_
     iterate 4 refine zlo ?_
     refine zlv xpf ?_
     refine zlv xas ?_
     refine zln <| ztn <| zrt <| zf1 ⟨_, rfl, ?_⟩
     exact ⟨false_B (by rintro ⟨h1, h2, h3, h4⟩; first | omega | (have := h1 i h0 (by omega); omega)), hS.nl⟩

set_option maxRecDepth 20000 in
theorem c_rvalid {vc vA vb : Value} {vq : Int → Value} {p : Lp} (w0 : World) (hL : LAt w0 vc vA vb vq p) :
    Calls Try.prog 14 [.agg #[vc, vA, vb]].toArray w0 fun e w => ∃ v, e = .returned v ∧ v = B (LOk p) ∧ Sat w0 w [] := by
  have hn := hL.c.slh.n0; have hn1 := hL.c.slh.n1; have hm := hL.A.row.slh.n0; have hm1 := hL.A.row.slh.n1; have hk := hL.b.slh.n0; have hk1 := hL.b.slh.n1
  refine zenG Try.func14 Try.ntmps14 fun w hS => ?_
  refine zsq <| zrg ?_
  refine zla (xbx (cs := [_, _, _]) hS) ?_; rintro _ w ⟨g1, rfl, hS⟩
  replace hS : Sat w0 w [.blk _ [_, _, _]] := hS
  refine zlv xas ?_
  refine zln <| ztn <| zsq <| zsq <| zrg ?_
  refine zlv xas ?_
  refine zln <| ztn <| zbk <| zlp (fun mm M w => ∃ (i : Int), mm = ((p.m - i).toNat) ∧ (0 ≤ i) ∧ (i ≤ p.m) ∧ (∀ k, 0 ≤ k → k < i → p.ln k = p.n ∧ ∀ j, 0 ≤ j → j < p.n → -1000000 ≤ p.A k j ∧ p.A k j ≤ 1000000) ∧ M = [(1, .pointer (some ⟨g1, 0, none⟩)), (3, .int .i64 i)] ∧ Sat w0 w [.blk g1 [vc, vA, vb]]) ⟨0, rfl, (by omega), (by omega), ?_, rfl, hS⟩ ?_
  ·
   intro k k0 k1; omega
  ·
   clear hS w
   rintro mm M w ⟨i, rfl, h0, h1, hall, rfl, hS⟩
   refine zsq <| zsq <| zrg ?_
   refine zlv xmv ?_
   refine zlv (xfb 1 fd_25_1) ?_
   refine zlv (xlb 0 pl_23 hS) ?_
   refine zlv (xln sl_23 hL.A.row.slh) ?_
   refine zlv xlss ?_
   refine zln <| ztn ?_
   refine zcif ?_ ?_ <;> intro hc
   ·
    refine zsk <| ztn <| zsq <| zbk <| zsq ?_
    refine zdst [0] [0] 1000 mx_ hS ?_; clear hS; intro w hS
    refine zdv 0 (fun _ => (xfb 1 fd_25_1)) ?_
    refine zdla 1 (fun w hS => (xlb 0 pl_23 hS)) ?_
    refine zdv 2 (fun _ => xmv) ?_
    refine zdv 3 (fun _ => (xix (kk := i) sl_23 hL.A.row.slh)) ?_
    refine zdla 4 (fun w hS => (xlr (u := (vq i)) pl_22 (hL.A.row.below hS.below))) ?_
    refine zdv 5 (fun _ => (xln sl_22 (hL.A.p i (by omega) (by omega)).slh)) ?_
    refine zdv 6 (fun _ => (xfb 0 fd_25_0)) ?_
    refine zdla 7 (fun w hS => (xlb 0 pl_22 hS)) ?_
    refine zdv 8 (fun _ => (xln sl_22 hL.c.slh)) ?_
    refine zdv 9 (fun _ => xneq) ?_
    refine zdv 10 (fun _ => xmv) ?_
    refine zdb 21 ?_ ?_ <;> intro hc
    ·
     refine zdof 11 ?_
     refine zdof 12 ?_
     refine zdof 13 ?_
     refine zdof 14 ?_
     refine zdof 15 ?_
     refine zdof 16 ?_
     refine zdof 17 ?_
     refine zdv 18 (fun _ => xpt) ?_
     refine zdd <| ztn <| zct <| zsq <| zrg ?_
     refine zlv xas ?_
     refine zln <| ztn <| zrt <| zbr <| ztr <| ztr <| zbr <| ztr <| zf1 ⟨_, rfl, ?_⟩
     exact ⟨false_B (by intro hl; have b1 := hl.n1; have b2 := hl.n2; have b3 := hl.m2; have b4 := hl.k; first | omega | exact absurd (fun j j0 j1 => by have := hl.c j j0 j1; omega) ‹¬ ∀ k, 0 ≤ k → k < p.n → 0 ≤ p.c k ∧ p.c k ≤ 1000000› | (have := (hl.rows i h0 (by omega)).1; omega) | exact absurd (fun j j0 j1 => (hl.rows i h0 (by omega)).2 j j0 (by have := (hl.rows i h0 (by omega)).1; omega)) ‹¬ ∀ k, 0 ≤ k → k < p.ln i → -1000000 ≤ p.A i k ∧ p.A i k ≤ 1000000›), hS.nl⟩
    ·
     refine zdv 11 (fun _ => (xfb 1 fd_25_1)) ?_
     refine zdla 12 (fun w hS => (xlb 0 pl_23 hS)) ?_
     refine zdv 13 (fun _ => xmv) ?_
     refine zdv 14 (fun _ => (xix (kk := i) sl_23 hL.A.row.slh)) ?_
     refine zdla 15 (fun w hS => (xlr (u := (vq i)) pl_22 (hL.A.row.below hS.below))) ?_
     refine zdc 16 (xc0 cl_39) (c_within (n := (p.ln i)) (lo := (-1000000)) (hi := 1000000) (f := (p.A i)) w ((hL.A.p i (by omega) (by omega)).below hS.below)) ?_; rintro _ w ⟨rfl, hS'⟩
     replace hS := hS.cmp hS'; clear hS'
     refine ⟨⟨fun _ => hS, hS⟩, ?_⟩
     refine zdv 17 (fun _ => xnot) ?_
     refine zdv 18 (fun _ => xpf) ?_
     refine zdd <| ztn ?_
     refine zcif ?_ ?_ <;> intro hc
     ·
      refine zsq <| zrg ?_
      refine zlv xas ?_
      refine zln <| ztn <| zrt <| zbr <| ztr <| ztr <| zbr <| ztr <| zf1 ⟨_, rfl, ?_⟩
      exact ⟨false_B (by intro hl; have b1 := hl.n1; have b2 := hl.n2; have b3 := hl.m2; have b4 := hl.k; first | omega | exact absurd (fun j j0 j1 => by have := hl.c j j0 j1; omega) ‹¬ ∀ k, 0 ≤ k → k < p.n → 0 ≤ p.c k ∧ p.c k ≤ 1000000› | (have := (hl.rows i h0 (by omega)).1; omega) | exact absurd (fun j j0 j1 => (hl.rows i h0 (by omega)).2 j j0 (by have := (hl.rows i h0 (by omega)).1; omega)) ‹¬ ∀ k, 0 ≤ k → k < p.ln i → -1000000 ≤ p.A i k ∧ p.A i k ≤ 1000000›), hS.nl⟩
     ·
      refine zsk <| zbn <| ztn <| zrg ?_
      refine zlv xmv ?_
      refine zlv (xadd (r := i + 1)) ?_
      refine zlv xas ?_
      refine zln <| zlq ⟨i + 1, rfl, (by omega), (by omega), ?_, rfl, hS⟩
      ·
       have hq : ∀ k, 0 ≤ k → k < p.ln i → -1000000 ≤ p.A i k ∧ p.A i k ≤ 1000000 := by first | assumption | exact Classical.not_not.1 ‹_›
       intro k h0' h1'; rcases Int.lt_or_eq_of_le (show k ≤ i by omega) with hk | hk; exact hall k h0' hk; rw [hk]; exact ⟨by omega, fun j j0 j1 => hq j j0 (by omega)⟩
   ·
    refine zxt <| ztx <| ztx <| zbh <| ztn <| zsq <| zrg ?_
    refine zlv (xfb 0 fd_25_0) ?_
    refine zlv (xlb 0 pl_22 hS) ?_
    refine zlv (xln sl_22 hL.c.slh) ?_
    refine zlv xgeq ?_
    refine zlv xmv ?_
    refine zlb 34 ?_ ?_ <;> intro hc
    ·
     refine zlv (xfb 0 fd_25_0) ?_
     refine zlv (xlb 0 pl_22 hS) ?_
     refine zlv (xln sl_22 hL.c.slh) ?_
     refine zlv xleq ?_
     refine zlv xpt ?_
     refine zlv xmv ?_
     refine zlb 40 ?_ ?_ <;> intro hc
     ·
      refine zlv (xfb 1 fd_25_1) ?_
      refine zlv (xlb 0 pl_23 hS) ?_
      refine zlv (xln sl_23 hL.A.row.slh) ?_
      refine zlv xleq ?_
      refine zlv xpt ?_
      refine zlv xmv ?_
      refine zlb 46 ?_ ?_ <;> intro hc
      ·
       refine zlv (xfb 2 fd_25_2) ?_
       refine zlv (xlb 0 pl_22 hS) ?_
       refine zlv (xln sl_22 hL.b.slh) ?_
       refine zlv (xfb 1 fd_25_1) ?_
       refine zlv (xlb 0 pl_23 hS) ?_
       refine zlv (xln sl_23 hL.A.row.slh) ?_
       refine zlv xeql ?_
       refine zlv xpt ?_
       refine zlv xmv ?_
       refine zlb 55 ?_ ?_ <;> intro hc
       ·
        refine zlv (xfb 0 fd_25_0) ?_
        refine zlv (xlb 0 pl_22 hS) ?_
        refine zlc (xc0 cl_39) (c_within (n := p.n) (lo := 0) (hi := 1000000) (f := p.c) w (hL.c.below hS.below)) ?_; rintro _ w ⟨rfl, hS'⟩
        replace hS := hS.cmp hS'; clear hS'
        refine zlv xpt ?_
        refine zlv xmv ?_
        refine zlb 60 ?_ ?_ <;> intro hc
        ·
         refine zlv (xfb 2 fd_25_2) ?_
         refine zlv (xlb 0 pl_22 hS) ?_
         refine zlc (xc0 cl_39) (c_within (n := p.k) (lo := (-1000000)) (hi := 1000000) (f := p.b) w (hL.b.below hS.below)) ?_; rintro _ w ⟨rfl, hS'⟩
         replace hS := hS.cmp hS'; clear hS'
         refine zlv xpt ?_
         refine zlv xas ?_
         refine zln <| ztn <| zrt <| zf1 ⟨_, rfl, ?_⟩
         exact ⟨B_congr ⟨fun hx => ⟨by omega, by omega, by omega, by omega, ‹∀ k, 0 ≤ k → k < p.n → 0 ≤ p.c k ∧ p.c k ≤ 1000000›, fun k k0 k1 => hx k k0 (by omega), fun k k0 k1 => hall k k0 (by omega)⟩, fun hl k k0 k1 => hl.b k k0 (by have := hl.k; omega)⟩, hS.nl⟩
        ·
         iterate 3 refine zlo ?_
         refine zlv xpf ?_
         refine zlv xas ?_
         refine zln <| ztn <| zrt <| zf1 ⟨_, rfl, ?_⟩
         exact ⟨false_B (by intro hl; have b1 := hl.n1; have b2 := hl.n2; have b3 := hl.m2; have b4 := hl.k; first | omega | exact absurd (fun j j0 j1 => by have := hl.c j j0 j1; omega) ‹¬ ∀ k, 0 ≤ k → k < p.n → 0 ≤ p.c k ∧ p.c k ≤ 1000000› | (have := (hl.rows i h0 (by omega)).1; omega) | exact absurd (fun j j0 j1 => (hl.rows i h0 (by omega)).2 j j0 (by have := (hl.rows i h0 (by omega)).1; omega)) ‹¬ ∀ k, 0 ≤ k → k < p.ln i → -1000000 ≤ p.A i k ∧ p.A i k ≤ 1000000›), hS.nl⟩
       ·
        iterate 3 refine zlo ?_
        refine zlv xpf ?_
        refine zlv xmv ?_
        iterate 3 refine zlo ?_
        refine zlv xpf ?_
        refine zlv xas ?_
        refine zln <| ztn <| zrt <| zf1 ⟨_, rfl, ?_⟩
        exact ⟨false_B (by intro hl; have b1 := hl.n1; have b2 := hl.n2; have b3 := hl.m2; have b4 := hl.k; first | omega | exact absurd (fun j j0 j1 => by have := hl.c j j0 j1; omega) ‹¬ ∀ k, 0 ≤ k → k < p.n → 0 ≤ p.c k ∧ p.c k ≤ 1000000› | (have := (hl.rows i h0 (by omega)).1; omega) | exact absurd (fun j j0 j1 => (hl.rows i h0 (by omega)).2 j j0 (by have := (hl.rows i h0 (by omega)).1; omega)) ‹¬ ∀ k, 0 ≤ k → k < p.ln i → -1000000 ≤ p.A i k ∧ p.A i k ≤ 1000000›), hS.nl⟩
      ·
       iterate 7 refine zlo ?_
       refine zlv xpf ?_
       refine zlv xmv ?_
       iterate 3 refine zlo ?_
       refine zlv xpf ?_
       refine zlv xmv ?_
       iterate 3 refine zlo ?_
       refine zlv xpf ?_
       refine zlv xas ?_
       refine zln <| ztn <| zrt <| zf1 ⟨_, rfl, ?_⟩
       exact ⟨false_B (by intro hl; have b1 := hl.n1; have b2 := hl.n2; have b3 := hl.m2; have b4 := hl.k; first | omega | exact absurd (fun j j0 j1 => by have := hl.c j j0 j1; omega) ‹¬ ∀ k, 0 ≤ k → k < p.n → 0 ≤ p.c k ∧ p.c k ≤ 1000000› | (have := (hl.rows i h0 (by omega)).1; omega) | exact absurd (fun j j0 j1 => (hl.rows i h0 (by omega)).2 j j0 (by have := (hl.rows i h0 (by omega)).1; omega)) ‹¬ ∀ k, 0 ≤ k → k < p.ln i → -1000000 ≤ p.A i k ∧ p.A i k ≤ 1000000›), hS.nl⟩
     ·
      iterate 4 refine zlo ?_
      refine zlv xpf ?_
      refine zlv xmv ?_
      iterate 7 refine zlo ?_
      refine zlv xpf ?_
      refine zlv xmv ?_
      iterate 3 refine zlo ?_
      refine zlv xpf ?_
      refine zlv xmv ?_
      iterate 3 refine zlo ?_
      refine zlv xpf ?_
      refine zlv xas ?_
      refine zln <| ztn <| zrt <| zf1 ⟨_, rfl, ?_⟩
      exact ⟨false_B (by intro hl; have b1 := hl.n1; have b2 := hl.n2; have b3 := hl.m2; have b4 := hl.k; first | omega | exact absurd (fun j j0 j1 => by have := hl.c j j0 j1; omega) ‹¬ ∀ k, 0 ≤ k → k < p.n → 0 ≤ p.c k ∧ p.c k ≤ 1000000› | (have := (hl.rows i h0 (by omega)).1; omega) | exact absurd (fun j j0 j1 => (hl.rows i h0 (by omega)).2 j j0 (by have := (hl.rows i h0 (by omega)).1; omega)) ‹¬ ∀ k, 0 ≤ k → k < p.ln i → -1000000 ≤ p.A i k ∧ p.A i k ≤ 1000000›), hS.nl⟩
    ·
     iterate 4 refine zlo ?_
     refine zlv xpf ?_
     refine zlv xmv ?_
     iterate 4 refine zlo ?_
     refine zlv xpf ?_
     refine zlv xmv ?_
     iterate 7 refine zlo ?_
     refine zlv xpf ?_
     refine zlv xmv ?_
     iterate 3 refine zlo ?_
     refine zlv xpf ?_
     refine zlv xmv ?_
     iterate 3 refine zlo ?_
     refine zlv xpf ?_
     refine zlv xas ?_
     refine zln <| ztn <| zrt <| zf1 ⟨_, rfl, ?_⟩
     exact ⟨false_B (by intro hl; have b1 := hl.n1; have b2 := hl.n2; have b3 := hl.m2; have b4 := hl.k; first | omega | exact absurd (fun j j0 j1 => by have := hl.c j j0 j1; omega) ‹¬ ∀ k, 0 ≤ k → k < p.n → 0 ≤ p.c k ∧ p.c k ≤ 1000000› | (have := (hl.rows i h0 (by omega)).1; omega) | exact absurd (fun j j0 j1 => (hl.rows i h0 (by omega)).2 j j0 (by have := (hl.rows i h0 (by omega)).1; omega)) ‹¬ ∀ k, 0 ≤ k → k < p.ln i → -1000000 ≤ p.A i k ∧ p.A i k ≤ 1000000›), hS.nl⟩

theorem c_own {vc vA vb : Value} {vq : Int → Value} {p : Lp} (w0 : World) (hL : LAt w0 vc vA vb vq p) :
    Calls Try.prog 16 [.agg #[vc, vA, vb]].toArray w0 fun e w => ∃ v, e = .returned v ∧ v = .agg #[vc, vA, vb] ∧ Sat w0 w [] := by
  have hn := hL.c.slh.n0; have hn1 := hL.c.slh.n1; have hm := hL.A.row.slh.n0; have hm1 := hL.A.row.slh.n1; have hk := hL.b.slh.n0; have hk1 := hL.b.slh.n1
  refine zenG Try.func16 Try.ntmps16 fun w hS => ?_
  refine zsq <| zrg ?_
  refine zla (xbx (cs := [_, _, _]) hS) ?_; rintro _ w ⟨g1, rfl, hS⟩
  replace hS : Sat w0 w [.blk _ [_, _, _]] := hS
  refine zla (xal (cs := [_, _, _]) el_34 hS) ?_; rintro _ w ⟨g2, rfl, hS⟩
  replace hS : Sat w0 w [.blk _ [_, _, _], .blk _ [_, _, _]] := hS
  refine zln <| ztn <| zsq <| zrg ?_
  refine zlv (xls 0 st_25 hS) ?_
  refine zle (xsw 1 st_34 hS (hd := (ones_cons hL.c.slh.one (ones_cons hL.A.row.slh.one (ones_cons hL.b.slh.one ones_nil))))) ?_; clear hS; rintro w hS
  replace hS : Sat w0 w [.blk _ [_, _, _], .blk _ [_, _, _]] := hS
  refine zln <| ztn <| zrt <| zfc 1 st_34 hS ⟨_, rfl, ?_⟩
  exact ⟨rfl, hS.nl⟩

set_option maxRecDepth 20000 in
theorem law_prices {vc vA vb : Value} {vq : Int → Value} {p : Lp} {at_ : Int} (w0 : World) (hL : LAt w0 vc vA vb vq p) (hat : 0 ≤ at_ ∧ at_ ≤ 255) :
    Calls Try.prog 7 [.agg #[vc, vA, vb], .int .u8 at_].toArray w0 fun e w => ∃ v, e = .returned v ∧ v = .bool true ∧ Sat w0 w [] := by
  have hn := hL.c.slh.n0; have hn1 := hL.c.slh.n1; have hm := hL.A.row.slh.n0; have hm1 := hL.A.row.slh.n1; have hk := hL.b.slh.n0; have hk1 := hL.b.slh.n1
  refine zenG Try.func7 Try.ntmps7 fun w hS => ?_
  refine zsq <| zrg ?_
  refine zla (xbx (cs := [_, _, _]) hS) ?_; rintro _ w ⟨g1, rfl, hS⟩
  replace hS : Sat w0 w [.blk _ [_, _, _]] := hS
  refine zlv xas ?_
  refine zln <| ztn <| zsq <| zsq <| zrg ?_
  refine zlc (xc0 cl_12) (c_awake w) ?_; rintro _ w ⟨rfl, hS'⟩
  replace hS := hS.cmp hS'; clear hS'
  refine zlv xnt ?_
  refine zlv xmv ?_
  refine zlv (xls 0 st_25 hS) ?_
  refine zlc (xc0 cl_13) (c_few (p := p) w (hL.below hS.below)) ?_; rintro _ w ⟨rfl, hS'⟩
  replace hS := hS.cmp hS'; clear hS'
  refine zlv xnot ?_
  refine zlv xpf ?_
  refine zlv xmv ?_
  refine zlb 18 ?_ ?_ <;> intro hc
  ·
   iterate 3 refine zlo ?_
   refine zlv xpt ?_
   refine zlv xmv ?_
   iterate 4 refine zlo ?_
   refine zlv xpt ?_
   refine zln <| ztn <| zct <| zsq <| zrg ?_
   refine zlc (xc0 cl_12) (c_awake w) ?_; rintro _ w ⟨rfl, hS'⟩
   replace hS := hS.cmp hS'; clear hS'
   refine zlv xas ?_
   refine zln <| ztn <| zrt <| ztr <| zf1 ⟨_, rfl, ?_⟩
   exact ⟨rfl, hS.nl⟩
  ·
   refine zlv (xls 0 st_25 hS) ?_
   refine zlc (xc0 cl_14) (c_rvalid (p := p) w (hL.below hS.below)) ?_; rintro _ w ⟨rfl, hS'⟩
   replace hS := hS.cmp hS'; clear hS'
   refine zlv xnot ?_
   refine zlv xpf ?_
   refine zlv xmv ?_
   refine zlb 23 ?_ ?_ <;> intro hc
   ·
    iterate 4 refine zlo ?_
    refine zlv xpt ?_
    refine zln <| ztn <| zct <| zsq <| zrg ?_
    refine zlc (xc0 cl_12) (c_awake w) ?_; rintro _ w ⟨rfl, hS'⟩
    replace hS := hS.cmp hS'; clear hS'
    refine zlv xas ?_
    refine zln <| ztn <| zrt <| ztr <| zf1 ⟨_, rfl, ?_⟩
    exact ⟨rfl, hS.nl⟩
   ·
    refine zlv (xfb 1 fd_25_1) ?_
    refine zlv (xlb 0 pl_23 hS) ?_
    refine zlv (xln sl_23 hL.A.row.slh) ?_
    refine zlv xeql ?_
    refine zlv xpf ?_
    refine zln <| ztn ?_
    refine zcif ?_ ?_ <;> intro hc
    ·
     refine zsq <| zrg ?_
     refine zlc (xc0 cl_12) (c_awake w) ?_; rintro _ w ⟨rfl, hS'⟩
     replace hS := hS.cmp hS'; clear hS'
     refine zlv xas ?_
     refine zln <| ztn <| zrt <| ztr <| zf1 ⟨_, rfl, ?_⟩
     exact ⟨rfl, hS.nl⟩
    ·
     refine zsk <| ztn <| zsq <| zrg ?_
     refine zlv (xls 0 st_25 hS) ?_
     have hl : LOk p := by first | assumption | exact Classical.not_not.1 ‹¬ ¬ (LOk p)›
     have b1 := hl.n1; have b2 := hl.n2; have b3 := hl.m2; have b4 := hl.k
     refine zlc (xc0 cl_16) (c_own (p := p) w (hL.below hS.below)) ?_; rintro _ w ⟨rfl, hS'⟩
     replace hS := hS.cmp hS'; clear hS'
     refine zlc (xc0 cl_15) (c_solve (p := p) w (hL.below hS.below)) ?_; rintro _ w ⟨vXs1, vYs1, ss1, es1, rfl, hsos1, hvXs1, hvYs1, hS'⟩
     replace hS : Sat w0 w [.blk g1 [vc, vA, vb], .own vXs1 1 3 ss1.n (ints ss1.X), .own vYs1 1 3 ss1.m (ints ss1.Y)] := hS.comp hS'; clear hS'
     refine zlv xmv ?_
     iterate 2 refine zlv xex ?_
     refine zla (xal (cs := [_, _, _, _]) el_30 hS) ?_; rintro _ w ⟨g2, rfl, hS⟩
     replace hS : Sat w0 w [.blk _ [_, _, _], _, _, .blk _ [_, _, _, _]] := hS
     refine zle (xsw 3 st_30 hS (hd := (ones_cons hvXs1.one (ones_cons hvYs1.one (ones_cons rfl (ones_cons rfl ones_nil)))))) ?_; clear hS; rintro w hS
     replace hS : Sat w0 w [.blk _ [_, _, _], _, _, .blk _ [_, _, _, _]] := hS
     refine zlv xas ?_
     refine zln <| ztn <| zsq <| zrg ?_
     refine zlv xmv ?_
     refine zlv (xcv so_5 it_3) ?_
     refine zlv (xfb 1 fd_25_1) ?_
     refine zlv (xlb 0 pl_23 hS) ?_
     refine zlv (xln sl_23 hL.A.row.slh) ?_
     refine zlv (xrem (r := (Int.tmod at_ p.m))) ?_
     have hk0 := Int.tmod_nonneg p.m (show 0 ≤ at_ by omega); have hk1 := Int.tmod_lt_of_pos at_ (show 0 < p.m by omega); have hbk := hl.b (Int.tmod at_ p.m) hk0 hk1
     refine zlv xas ?_
     refine zln <| ztn <| zsq <| zrg ?_
     refine zlv (xls 0 st_25 hS) ?_
     refine zla (xal (cs := [_, _, _]) el_25 hS) ?_; rintro _ w ⟨g3, rfl, hS⟩
     replace hS : Sat w0 w [.blk _ [_, _, _], _, _, .blk _ [_, _, _, _], .blk _ [_, _, _]] := hS
     refine zle (xsw 4 st_25 hS (hd := (ones_cons hL.c.slh.one (ones_cons hL.A.row.slh.one (ones_cons hL.b.slh.one ones_nil))))) ?_; clear hS; rintro w hS
     replace hS : Sat w0 w [.blk _ [_, _, _], _, _, .blk _ [_, _, _, _], .blk _ [_, _, _]] := hS
     refine zln <| ztn <| zsq <| zrg ?_
     refine zla (xl0 (c := ints (fun _ => 0)) sl_22 hS) ?_; rintro v1 w ⟨hS, hv1⟩
     replace hS : Sat w0 w [.blk _ [_, _, _], _, _, .blk _ [_, _, _, _], .blk _ [_, _, _], _] := hS
     refine zlv (xfb 2 fd_25_2) ?_
     refine zlv (xlb 0 pl_22 hS) ?_
     refine zla (xap 5 (r := p.k) (f := ints (cat 0 (fun _ => 0) p.b)) sl_22 el_3 hS (hL.b.below hS.below) (by exact cat_ints1 _ _ _)) ?_; rintro v2 w ⟨hS, hv2⟩
     replace hS : Sat w0 w [.blk _ [_, _, _], _, _, .blk _ [_, _, _, _], .blk _ [_, _, _], _] := hS
     replace hS := hS.recont 5 rfl (d := ints p.b) (fun k k0 k1 => by unfold ints cat; rw [if_neg (by omega), Int.sub_zero])
     replace hS : Sat w0 w [.blk _ [_, _, _], _, _, .blk _ [_, _, _, _], .blk _ [_, _, _], _] := hS
     refine zlv (xfb 2 fd_25_2) ?_
     refine zle (xsb 4 pl_22 hS (hv := hv2.one)) ?_; clear hS; rintro w hS
     replace hS : Sat w0 w [.blk _ [_, _, _], _, _, .blk _ [_, _, _, _], .blk _ [_, _, _], _] := hS
     refine zln <| ztn <| zsq <| zrg ?_
     refine zlv (xfb 2 fd_25_2) ?_
     refine zlv (xlb 4 pl_22 hS) ?_
     refine zlv xmv ?_
     refine zlv (xix (kk := (Int.tmod at_ p.m)) sl_22 hv2) ?_
     refine zlv (xlr (u := .int .i64 (p.b (Int.tmod at_ p.m))) pl_3 (hS.rowN 5 rfl)) ?_
     refine zlv (xadd (r := (p.b (Int.tmod at_ p.m)) + 1)) ?_
     refine zlv (xix (kk := (Int.tmod at_ p.m)) sl_22 hv2) ?_
     refine zle (xso 5 pl_3 hS (upd_ints _ _ _)) ?_; clear hS; rintro w hS
     replace hS : Sat w0 w [.blk _ [_, _, _], _, _, .blk _ [_, _, _, _], .blk _ [_, _, _], _] := hS
     refine zln <| ztn <| zsq <| zrg ?_
     refine zlv (xls 4 st_25 hS) ?_
     refine zlc (xc0 cl_16) (c_own (p := (⟨p.n, p.m, p.k, p.c, p.ln, p.A, (upd p.b (Int.tmod at_ p.m) ((p.b (Int.tmod at_ p.m)) + 1))⟩ : Lp)) w (⟨(hL.c.below hS.below), (hL.A.below hS.below), (hS.rowN 5 rfl)⟩ : LAt _ vc vA v2 vq (⟨p.n, p.m, p.k, p.c, p.ln, p.A, (upd p.b (Int.tmod at_ p.m) ((p.b (Int.tmod at_ p.m)) + 1))⟩ : Lp))) ?_; rintro _ w ⟨rfl, hS'⟩
     replace hS := hS.cmp hS'; clear hS'
     refine zlc (xc0 cl_15) (c_solve (p := (⟨p.n, p.m, p.k, p.c, p.ln, p.A, (upd p.b (Int.tmod at_ p.m) ((p.b (Int.tmod at_ p.m)) + 1))⟩ : Lp)) w (⟨(hL.c.below hS.below), (hL.A.below hS.below), (hS.rowN 5 rfl)⟩ : LAt _ vc vA v2 vq (⟨p.n, p.m, p.k, p.c, p.ln, p.A, (upd p.b (Int.tmod at_ p.m) ((p.b (Int.tmod at_ p.m)) + 1))⟩ : Lp))) ?_; rintro _ w ⟨vXs2, vYs2, ss2, es2, rfl, hsos2, hvXs2, hvYs2, hS'⟩
     replace hS : Sat w0 w [.blk g1 [vc, vA, vb], .own vXs1 1 3 ss1.n (ints ss1.X), .own vYs1 1 3 ss1.m (ints ss1.Y), .blk g2 [vXs1, vYs1, .int .i64 ss1.val, .int .i64 ss1.den], .blk g3 [vc, vA, v2], .own v2 1 3 p.k (ints (upd p.b (Int.tmod at_ p.m) ((p.b (Int.tmod at_ p.m)) + 1))), .own vXs2 1 3 ss2.n (ints ss2.X), .own vYs2 1 3 ss2.m (ints ss2.Y)] := hS.comp hS'; clear hS'
     refine zlv xmv ?_
     iterate 2 refine zlv xex ?_
     refine zla (xal (cs := [_, _, _, _]) el_30 hS) ?_; rintro _ w ⟨g4, rfl, hS⟩
     replace hS : Sat w0 w [.blk _ [_, _, _], _, _, .blk _ [_, _, _, _], .blk _ [_, _, _], _, _, _, .blk _ [_, _, _, _]] := hS
     refine zle (xsw 8 st_30 hS (hd := (ones_cons hvXs2.one (ones_cons hvYs2.one (ones_cons rfl (ones_cons rfl ones_nil)))))) ?_; clear hS; rintro w hS
     replace hS : Sat w0 w [.blk _ [_, _, _], _, _, .blk _ [_, _, _, _], .blk _ [_, _, _], _, _, _, .blk _ [_, _, _, _]] := hS
     refine zlv xas ?_
     refine zln <| ztn <| zsq <| zsq <| zrg ?_
     refine zlv xmv ?_
     refine zlv xneq ?_
     refine zlv xmv ?_
     refine zlb 63 ?_ ?_ <;> intro hc
     ·
      iterate 2 refine zlo ?_
      refine zlv xpt ?_
      refine zln <| ztn <| zct <| zsq <| zrg ?_
      refine zlv xmv ?_
      refine zlv xneq ?_
      refine zlv xmv ?_
      refine zlb 69 ?_ ?_ <;> intro hc
      ·
       iterate 2 refine zlo ?_
       refine zlv xpt ?_
       refine zlv xas ?_
       refine zln <| ztn <| zrt <| ztr <| zf1 ⟨_, rfl, ?_⟩
       exact ⟨rfl, hS.nl⟩
      ·
       refine zlv xmv ?_
       refine zlv xneq ?_
       refine zlv xpf ?_
       refine zlv xas ?_
       refine zln <| ztn <| zrt <| ztr <| zf1 ⟨_, rfl, ?_⟩
       have he1 : es1 = 19 := by omega
       rw [he1] at hsos1
       exact ⟨(true_B fun h => price_none (k := Int.tmod at_ p.m) (e := 19) (by omega) hsos1 (SolveR.chk (p := p.more (Int.tmod at_ p.m)) (by show 0 ≤ p.m; omega) hsos2 h)).symm, hS.nl⟩
     ·
      refine zlv xmv ?_
      refine zlv xneq ?_
      refine zlv xpf ?_
      refine zln <| ztn ?_
      refine zcif ?_ ?_ <;> intro hc
      ·
       refine zsq <| zrg ?_
       refine zlv xmv ?_
       refine zlv (xkt xneq) ?_
       refine zlv xmv ?_
       iterate 2 refine zlo ?_
       refine zlv xpt ?_
       refine zlv xas ?_
       refine zln <| ztn <| zrt <| ztr <| zf1 ⟨_, rfl, ?_⟩
       exact ⟨rfl, hS.nl⟩
      ·
       refine zsk <| ztn <| zsq ?_
       refine zdst [0, 1, 2, 3, 4, 5, 6, 7, 8] [0, 1, 2, 3, 4, 5, 6, 7, 8] 1000 mx_ hS ?_; clear hS; intro w hS
       refine zdv 0 (fun _ => (xfb 2 fd_30_2)) ?_
       have hcs := hsos1.chk (by omega) (by omega); have hct := SolveR.chk (p := p.more (Int.tmod at_ p.m)) (by show 0 ≤ p.m; omega) hsos2 (by omega)
       have hsn := hcs.n; have hsm := hcs.m; have hsv := hcs.v; have hsd := hcs.d1; have hsd2 := hcs.d2; have htv := hct.v; have htd := hct.d1; have htd2 := hct.d2; have hsY := hcs.Y (Int.tmod at_ p.m) (by omega) (by omega)
       have hm1 := mul_abs htv (show -1073741824 ≤ ss1.den ∧ ss1.den ≤ 1073741824 by omega); have hm2 := mul_abs (a := ss1.val + ss1.Y (Int.tmod at_ p.m)) (A := 2147483648) (by omega) (show -1073741824 ≤ ss2.den ∧ ss2.den ≤ 1073741824 by omega)
       have hpl := price_law (by omega) (by omega) hcs hct
       refine zdla 1 (fun w hS => (xlb 8 pl_3 hS)) ?_
       refine zdv 2 (fun _ => (xfb 3 fd_30_3)) ?_
       refine zdla 3 (fun w hS => (xlb 3 pl_3 hS)) ?_
       refine zdv 4 (fun _ => (xmul (r := (ss2.val * ss1.den)) (e := rfl))) ?_
       refine zdv 5 (fun _ => (xfb 2 fd_30_2)) ?_
       refine zdla 6 (fun w hS => (xlb 3 pl_3 hS)) ?_
       refine zdv 7 (fun _ => (xfb 1 fd_30_1)) ?_
       refine zdla 8 (fun w hS => (xlb 3 pl_22 hS)) ?_
       refine zdv 9 (fun _ => xmv) ?_
       refine zdv 10 (fun _ => (xix (kk := (Int.tmod at_ p.m)) sl_22 hvYs1)) ?_
       refine zdla 11 (fun w hS => (xlr (u := .int .i64 (ss1.Y (Int.tmod at_ p.m))) pl_3 (hS.rowN 2 rfl))) ?_
       refine zdv 12 (fun _ => (xadd (r := ss1.val + (ss1.Y (Int.tmod at_ p.m))))) ?_
       refine zdv 13 (fun _ => (xfb 3 fd_30_3)) ?_
       refine zdla 14 (fun w hS => (xlb 8 pl_3 hS)) ?_
       refine zdv 15 (fun _ => (xmul (r := ((ss1.val + (ss1.Y (Int.tmod at_ p.m))) * ss2.den)) (e := rfl))) ?_
       refine zdv 16 (fun _ => xgeq) ?_
       refine zdv 17 (fun _ => xas) ?_
       refine zdd <| ztn <| zrt <| zf1 ⟨_, rfl, ?_⟩
       exact ⟨(true_B (by omega)).symm, hS.nl⟩

end Go.Proofs.Ytakgjpmhbfieeaa
