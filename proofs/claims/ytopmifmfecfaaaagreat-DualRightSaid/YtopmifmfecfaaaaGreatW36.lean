/- The walks of SameSolution and TableauSolve. -/
import Derived.Test.YtopmifmfecfaaaaGreatGv
import Derived.Test.YtopmifmfecfaaaaGreatW8
import Derived.Test.YtopmifmfecfaaaaGreatFi
namespace Go.Proofs.YtopmifmfecfaaaaGreat
open Go Go.RowKit Go.Proofs.Gw
set_option linter.unusedVariables false

theorem cl_124 : calledT Tryz.prog 124 = true := by kernel_rfl
theorem cl_125 : calledT Tryz.prog 125 = true := by kernel_rfl
theorem cl_126 : calledT Tryz.prog 126 = true := by kernel_rfl
theorem cl_158 : calledT Tryz.prog 158 = true := by kernel_rfl
theorem cl_159 : calledT Tryz.prog 159 = true := by kernel_rfl
theorem cl_160 : calledT Tryz.prog 160 = true := by kernel_rfl
theorem cl_175 : calledT Tryz.prog 175 = true := by kernel_rfl
theorem cl_176 : calledT Tryz.prog 176 = true := by kernel_rfl
theorem cl_177 : calledT Tryz.prog 177 = true := by kernel_rfl
theorem cl_178 : calledT Tryz.prog 178 = true := by kernel_rfl
theorem cl_52 : calledT Tryz.prog 52 = true := by kernel_rfl
theorem el_175 : elemT Tryz.prog 175 = some (.agg #[.int .i64 0, .int .i64 0, .slice none 0 0, .slice none 0 0, .slice none 0 0], 5, 88) := by kernel_rfl
theorem el_36 : elemT Tryz.prog 36 = some (.agg #[.slice none 0 0, .slice none 0 0, .int .i64 0, .int .i64 0], 4, 64) := by kernel_rfl
theorem el_4 : elemT Tryz.prog 4 = some (.bool false, 1, 1) := by kernel_rfl
theorem fd_134_0 : fieldT Tryz.prog 134 0 = some 0 := by kernel_rfl
theorem fd_134_1 : fieldT Tryz.prog 134 1 = some 1 := by kernel_rfl
theorem fd_134_2 : fieldT Tryz.prog 134 2 = some 2 := by kernel_rfl
theorem fd_175_0 : fieldT Tryz.prog 175 0 = some 0 := by kernel_rfl
theorem fd_175_1 : fieldT Tryz.prog 175 1 = some 1 := by kernel_rfl
theorem fd_175_2 : fieldT Tryz.prog 175 2 = some 2 := by kernel_rfl
theorem fd_175_3 : fieldT Tryz.prog 175 3 = some 3 := by kernel_rfl
theorem fd_175_4 : fieldT Tryz.prog 175 4 = some 4 := by kernel_rfl
theorem fd_36_0 : fieldT Tryz.prog 36 0 = some 0 := by kernel_rfl
theorem fd_36_1 : fieldT Tryz.prog 36 1 = some 1 := by kernel_rfl
theorem fd_36_2 : fieldT Tryz.prog 36 2 = some 2 := by kernel_rfl
theorem fd_36_3 : fieldT Tryz.prog 36 3 = some 3 := by kernel_rfl
theorem pl_4 : plainT Tryz.prog 4 = true := by kernel_rfl
theorem sl_162 : sliceT Tryz.prog 162 = some (4, 1) := by kernel_rfl
theorem st_134 : structT Tryz.prog 134 = some 3 := by kernel_rfl
theorem st_175 : structT Tryz.prog 175 = some 5 := by kernel_rfl
theorem st_36 : structT Tryz.prog 36 = some 4 := by kernel_rfl
set_option maxRecDepth 20000 in
theorem c_rvalid {vc vA vb : Value} {vq : Int → Value} {p : Lp} (w0 : World) (hL : LAt w0 vc vA vb vq p) :
    Calls Tryz.prog 158 [.agg #[vc, vA, vb]].toArray w0 fun e w => ∃ v, e = .returned v ∧ v = B (LOk p) ∧ Sat w0 w [] := by
  have hn := hL.c.slh.n0; have hn1 := hL.c.slh.n1; have hm := hL.A.row.slh.n0; have hm1 := hL.A.row.slh.n1; have hk := hL.b.slh.n0; have hk1 := hL.b.slh.n1
  refine zenG Tryz.func158 Tryz.ntmps158 fun w hS => ?_
  refine zsr ?_
  refine zla (xbx (cs := [_, _, _]) hS) ?_; rintro _ w ⟨g1, rfl, hS⟩
  replace hS := hS.n1
  refine zlv xas ?_
  refine zlt <| zsq <| zsr ?_
  refine zlv xas ?_
  refine zlt <| zbk <| zlp (fun mm M w => ∃ (i : Int), mm = ((p.m - i).toNat) ∧ (0 ≤ i) ∧ (i ≤ p.m) ∧ (∀ k, 0 ≤ k → k < i → p.ln k = p.n ∧ ∀ j, 0 ≤ j → j < p.n → -1000000 ≤ p.A k j ∧ p.A k j ≤ 1000000) ∧ M = [(1, .pointer (some ⟨g1, 0, none⟩)), (3, .int .i64 i)] ∧ Sat w0 w [.blk g1 [vc, vA, vb]]) ⟨0, rfl, (by omega), (by omega), ?_, rfl, hS⟩ ?_
  ·
   intro k k0 k1; omega
  clear hS w
  rintro mm M w ⟨i, rfl, h0, h1, hall, rfl, hS⟩
  refine zsq <| zsr ?_
  refine zlv xmv ?_
  refine zlv (xfb 1 fd_134_1) ?_
  refine zlv (xlb 0 pl_27 hS) ?_
  refine zlv (xln sl_27 hL.A.row.slh) ?_
  refine zlv xlss ?_
  refine zlt ?_
  refine zcif ?_ ?_ <;> intro hc
  ·
   refine zsk <| ztn <| zsq <| zbk <| zsq ?_
   refine zdst [0] [0] 1000 mx_ hS ?_; clear hS; intro w hS
   refine zdv 0 (fun _ => (xfb 1 fd_134_1)) ?_
   refine zdla 1 (fun w hS => (xlb 0 pl_27 hS)) ?_
   refine zdv 2 (fun _ => xmv) ?_
   refine zdv 3 (fun _ => (xix (kk := i) sl_27 hL.A.row.slh)) ?_
   refine zdla 4 (fun w hS => (xlr (u := (vq i)) pl_22 (hL.A.row.below hS.below))) ?_
   refine zdv 5 (fun _ => (xln sl_22 (hL.A.p i (by omega) (by omega)).slh)) ?_
   refine zdv 6 (fun _ => (xfb 0 fd_134_0)) ?_
   refine zdla 7 (fun w hS => (xlb 0 pl_22 hS)) ?_
   refine zdv 8 (fun _ => (xln sl_22 hL.c.slh)) ?_
   refine zdv 9 (fun _ => xneq) ?_
   refine zdv 10 (fun _ => xmv) ?_
   refine zdb 21 ?_ ?_ <;> intro hc
   ·
    refine zdof 11 ?_
    refine zdof 12 ?_
    refine zdof 13 ?_
    refine zdof 14 ?_
    refine zdof 15 ?_
    refine zdof 16 ?_
    refine zdof 17 ?_
    refine zdv 18 (fun _ => xpt) ?_
    refine zdd <| ztn <| zct <| zsr ?_
    refine zlv xas ?_
    refine zlt <| zrt <| zbr <| ztr <| ztr <| zbr <| ztr <| zf1 ⟨_, rfl, ?_⟩
    exact ⟨false_B (by intro hl; have b1 := hl.n1; have b2 := hl.n2; have b3 := hl.m2; have b4 := hl.k; first | omega | exact absurd (fun j j0 j1 => by have := hl.c j j0 j1; omega) ‹¬ ∀ k, 0 ≤ k → k < p.n → 0 ≤ p.c k ∧ p.c k ≤ 1000000› | (have := (hl.rows i h0 (by omega)).1; omega) | exact absurd (fun j j0 j1 => (hl.rows i h0 (by omega)).2 j j0 (by have := (hl.rows i h0 (by omega)).1; omega)) ‹¬ ∀ k, 0 ≤ k → k < p.ln i → -1000000 ≤ p.A i k ∧ p.A i k ≤ 1000000›), hS.nl⟩
   refine zdv 11 (fun _ => (xfb 1 fd_134_1)) ?_
   refine zdla 12 (fun w hS => (xlb 0 pl_27 hS)) ?_
   refine zdv 13 (fun _ => xmv) ?_
   refine zdv 14 (fun _ => (xix (kk := i) sl_27 hL.A.row.slh)) ?_
   refine zdla 15 (fun w hS => (xlr (u := (vq i)) pl_22 (hL.A.row.below hS.below))) ?_
   refine zdc 16 (xc0 cl_175) (c_within (n := (p.ln i)) (lo := (-1000000)) (hi := 1000000) (f := (p.A i)) w ((hL.A.p i (by omega) (by omega)).below hS.below)) ?_; rintro _ w ⟨rfl, hS'⟩
   replace hS := hS.cmp hS'; clear hS'
   refine ⟨⟨fun _ => hS, hS⟩, ?_⟩
   refine zdv 17 (fun _ => xnot) ?_
   refine zdv 18 (fun _ => xpf) ?_
   refine zdd <| ztn ?_
   refine zcif ?_ ?_ <;> intro hc
   ·
    refine zsr ?_
    refine zlv xas ?_
    refine zlt <| zrt <| zbr <| ztr <| ztr <| zbr <| ztr <| zf1 ⟨_, rfl, ?_⟩
    exact ⟨false_B (by intro hl; have b1 := hl.n1; have b2 := hl.n2; have b3 := hl.m2; have b4 := hl.k; first | omega | exact absurd (fun j j0 j1 => by have := hl.c j j0 j1; omega) ‹¬ ∀ k, 0 ≤ k → k < p.n → 0 ≤ p.c k ∧ p.c k ≤ 1000000› | (have := (hl.rows i h0 (by omega)).1; omega) | exact absurd (fun j j0 j1 => (hl.rows i h0 (by omega)).2 j j0 (by have := (hl.rows i h0 (by omega)).1; omega)) ‹¬ ∀ k, 0 ≤ k → k < p.ln i → -1000000 ≤ p.A i k ∧ p.A i k ≤ 1000000›), hS.nl⟩
   refine zsk <| zbn <| ztn <| zrg ?_
   refine zlv xmv ?_
   refine zlv (xadd (r := i + 1)) ?_
   refine zlv xas ?_
   refine zln <| zlq ⟨i + 1, rfl, (by omega), (by omega), ?_, rfl, hS⟩
   ·
    have hq : ∀ k, 0 ≤ k → k < p.ln i → -1000000 ≤ p.A i k ∧ p.A i k ≤ 1000000 := by first | assumption | exact Classical.not_not.1 ‹_›
    intro k h0' h1'; rcases Int.lt_or_eq_of_le (show k ≤ i by omega) with hk | hk; exact hall k h0' hk; rw [hk]; exact ⟨by omega, fun j j0 j1 => hq j j0 (by omega)⟩
  refine zxt <| ztx <| ztx <| zbh <| ztn <| zsr ?_
  refine zlv (xfb 0 fd_134_0) ?_
  refine zlv (xlb 0 pl_22 hS) ?_
  refine zlv (xln sl_22 hL.c.slh) ?_
  refine zs2 ?_
  refine zlb 34 ?_ ?_ <;> intro hc
  ·
   refine zlv (xfb 0 fd_134_0) ?_
   refine zlv (xlb 0 pl_22 hS) ?_
   refine zlv (xln sl_22 hL.c.slh) ?_
   refine zs3 ?_
   refine zlb 40 ?_ ?_ <;> intro hc
   ·
    refine zlv (xfb 1 fd_134_1) ?_
    refine zlv (xlb 0 pl_27 hS) ?_
    refine zlv (xln sl_27 hL.A.row.slh) ?_
    refine zs3 ?_
    refine zlb 46 ?_ ?_ <;> intro hc
    ·
     refine zlv (xfb 2 fd_134_2) ?_
     refine zlv (xlb 0 pl_22 hS) ?_
     refine zlv (xln sl_22 hL.b.slh) ?_
     refine zlv (xfb 1 fd_134_1) ?_
     refine zlv (xlb 0 pl_27 hS) ?_
     refine zlv (xln sl_27 hL.A.row.slh) ?_
     refine zs3 ?_
     refine zlb 55 ?_ ?_ <;> intro hc
     ·
      refine zlv (xfb 0 fd_134_0) ?_
      refine zlv (xlb 0 pl_22 hS) ?_
      refine zlc (xc0 cl_175) (c_within (n := p.n) (lo := 0) (hi := 1000000) (f := p.c) w (hL.c.below hS.below)) ?_; rintro _ w ⟨rfl, hS'⟩
      replace hS := hS.cmp hS'; clear hS'
      refine zs2 ?_
      refine zlb 60 ?_ ?_ <;> intro hc
      ·
       refine zlv (xfb 2 fd_134_2) ?_
       refine zlv (xlb 0 pl_22 hS) ?_
       refine zlc (xc0 cl_175) (c_within (n := p.k) (lo := (-1000000)) (hi := 1000000) (f := p.b) w (hL.b.below hS.below)) ?_; rintro _ w ⟨rfl, hS'⟩
       replace hS := hS.cmp hS'; clear hS'
       refine zs2 ?_
       refine zlt <| zrt <| zf1 ⟨_, rfl, ?_⟩
       exact ⟨B_congr ⟨fun hx => ⟨by omega, by omega, by omega, by omega, ‹∀ k, 0 ≤ k → k < p.n → 0 ≤ p.c k ∧ p.c k ≤ 1000000›, fun k k0 k1 => hx k k0 (by omega), fun k k0 k1 => hall k k0 (by omega)⟩, fun hl k k0 k1 => hl.b k k0 (by have := hl.k; omega)⟩, hS.nl⟩
      iterate 3 refine zlo ?_
      refine zs2 ?_
      refine zlt <| zrt <| zf1 ⟨_, rfl, ?_⟩
      exact ⟨false_B (by intro hl; have b1 := hl.n1; have b2 := hl.n2; have b3 := hl.m2; have b4 := hl.k; first | omega | exact absurd (fun j j0 j1 => by have := hl.c j j0 j1; omega) ‹¬ ∀ k, 0 ≤ k → k < p.n → 0 ≤ p.c k ∧ p.c k ≤ 1000000› | (have := (hl.rows i h0 (by omega)).1; omega) | exact absurd (fun j j0 j1 => (hl.rows i h0 (by omega)).2 j j0 (by have := (hl.rows i h0 (by omega)).1; omega)) ‹¬ ∀ k, 0 ≤ k → k < p.ln i → -1000000 ≤ p.A i k ∧ p.A i k ≤ 1000000›), hS.nl⟩
     iterate 3 refine zlo ?_
     refine zs2 ?_
     iterate 3 refine zlo ?_
     refine zs2 ?_
     refine zlt <| zrt <| zf1 ⟨_, rfl, ?_⟩
     exact ⟨false_B (by intro hl; have b1 := hl.n1; have b2 := hl.n2; have b3 := hl.m2; have b4 := hl.k; first | omega | exact absurd (fun j j0 j1 => by have := hl.c j j0 j1; omega) ‹¬ ∀ k, 0 ≤ k → k < p.n → 0 ≤ p.c k ∧ p.c k ≤ 1000000› | (have := (hl.rows i h0 (by omega)).1; omega) | exact absurd (fun j j0 j1 => (hl.rows i h0 (by omega)).2 j j0 (by have := (hl.rows i h0 (by omega)).1; omega)) ‹¬ ∀ k, 0 ≤ k → k < p.ln i → -1000000 ≤ p.A i k ∧ p.A i k ≤ 1000000›), hS.nl⟩
    iterate 7 refine zlo ?_
    refine zs2 ?_
    iterate 3 refine zlo ?_
    refine zs2 ?_
    iterate 3 refine zlo ?_
    refine zs2 ?_
    refine zlt <| zrt <| zf1 ⟨_, rfl, ?_⟩
    exact ⟨false_B (by intro hl; have b1 := hl.n1; have b2 := hl.n2; have b3 := hl.m2; have b4 := hl.k; first | omega | exact absurd (fun j j0 j1 => by have := hl.c j j0 j1; omega) ‹¬ ∀ k, 0 ≤ k → k < p.n → 0 ≤ p.c k ∧ p.c k ≤ 1000000› | (have := (hl.rows i h0 (by omega)).1; omega) | exact absurd (fun j j0 j1 => (hl.rows i h0 (by omega)).2 j j0 (by have := (hl.rows i h0 (by omega)).1; omega)) ‹¬ ∀ k, 0 ≤ k → k < p.ln i → -1000000 ≤ p.A i k ∧ p.A i k ≤ 1000000›), hS.nl⟩
   iterate 4 refine zlo ?_
   refine zs2 ?_
   iterate 7 refine zlo ?_
   refine zs2 ?_
   iterate 3 refine zlo ?_
   refine zs2 ?_
   iterate 3 refine zlo ?_
   refine zs2 ?_
   refine zlt <| zrt <| zf1 ⟨_, rfl, ?_⟩
   exact ⟨false_B (by intro hl; have b1 := hl.n1; have b2 := hl.n2; have b3 := hl.m2; have b4 := hl.k; first | omega | exact absurd (fun j j0 j1 => by have := hl.c j j0 j1; omega) ‹¬ ∀ k, 0 ≤ k → k < p.n → 0 ≤ p.c k ∧ p.c k ≤ 1000000› | (have := (hl.rows i h0 (by omega)).1; omega) | exact absurd (fun j j0 j1 => (hl.rows i h0 (by omega)).2 j j0 (by have := (hl.rows i h0 (by omega)).1; omega)) ‹¬ ∀ k, 0 ≤ k → k < p.ln i → -1000000 ≤ p.A i k ∧ p.A i k ≤ 1000000›), hS.nl⟩
  iterate 4 refine zlo ?_
  refine zs2 ?_
  iterate 4 refine zlo ?_
  refine zs2 ?_
  iterate 7 refine zlo ?_
  refine zs2 ?_
  iterate 3 refine zlo ?_
  refine zs2 ?_
  iterate 3 refine zlo ?_
  refine zs2 ?_
  refine zlt <| zrt <| zf1 ⟨_, rfl, ?_⟩
  exact ⟨false_B (by intro hl; have b1 := hl.n1; have b2 := hl.n2; have b3 := hl.m2; have b4 := hl.k; first | omega | exact absurd (fun j j0 j1 => by have := hl.c j j0 j1; omega) ‹¬ ∀ k, 0 ≤ k → k < p.n → 0 ≤ p.c k ∧ p.c k ≤ 1000000› | (have := (hl.rows i h0 (by omega)).1; omega) | exact absurd (fun j j0 j1 => (hl.rows i h0 (by omega)).2 j j0 (by have := (hl.rows i h0 (by omega)).1; omega)) ‹¬ ∀ k, 0 ≤ k → k < p.ln i → -1000000 ≤ p.A i k ∧ p.A i k ≤ 1000000›), hS.nl⟩

set_option maxRecDepth 20000 in
theorem c_same0 {va vb : Value} {n m : Int} {f g : Int → Int} (w0 : World) (hA : Row w0 va 1 n (ints f)) (hB2 : Row w0 vb 1 m (ints g)) :
    Calls Tryz.prog 52 [va, vb].toArray w0 fun e w => ∃ v, e = .returned v ∧ v = B (n = m ∧ ∀ k, 0 ≤ k → k < n → f k = g k) ∧ Sat w0 w [] := by
  have hn := hA.slh.n0; have hm1 := hB2.slh.n1; have hn1 := hA.slh.n1
  refine zenG Tryz.func52 Tryz.ntmps52 fun w hS => ?_
  refine zsr ?_
  refine zlv xas ?_
  refine zlt <| zsq <| zsr ?_
  refine zlv xmv ?_
  refine zlv (xln sl_22 hA.slh) ?_
  refine zlv xmv ?_
  refine zlv (xln sl_22 hB2.slh) ?_
  refine zlv xneq ?_
  refine zlt ?_
  refine zcif ?_ ?_ <;> intro hc
  ·
   refine zsr ?_
   refine zlv xas ?_
   refine zlt <| zrt <| ztr <| zf1 ⟨_, rfl, ?_⟩
   exact ⟨false_B (by rintro ⟨h1, h2⟩; first | omega | exact absurd (h2 i h0 (by omega)) (by omega)), hS⟩
  refine zsk <| ztn <| zsq <| zsr ?_
  refine zlv xas ?_
  refine zlt <| zbk <| zlp (fun mm M w => ∃ (i : Int), mm = ((n - i).toNat) ∧ (0 ≤ i) ∧ (i ≤ n) ∧ (∀ k, 0 ≤ k → k < i → f k = g k) ∧ M = [(0, va), (1, vb), (5, .int .i64 i)] ∧ Sat w0 w []) ⟨0, rfl, (by omega), (by omega), ?_, rfl, hS⟩ ?_
  ·
   intro k h0 h1; omega
  clear hS w
  rintro mm M w ⟨i, rfl, h0, h1, hall, rfl, hS⟩
  refine zsq <| zsr ?_
  refine zs2 ?_
  refine zlv (xln sl_22 hA.slh) ?_
  refine zlv xlss ?_
  refine zlt ?_
  refine zcif ?_ ?_ <;> intro hc
  ·
   refine zsk <| ztn <| zsq <| zbk <| zsq ?_
   refine zdst [] [] 1000 mx_ hS ?_; clear hS; intro w hS
   refine zdv 0 (fun _ => xmv) ?_
   refine zdv 1 (fun _ => xmv) ?_
   refine zdv 2 (fun _ => (xix (kk := i) sl_22 hA.slh)) ?_
   refine zdla 3 (fun w hS => (xlr (u := .int .i64 (f i)) pl_3 (hA.below hS.below))) ?_
   refine zdv 4 (fun _ => xmv) ?_
   refine zdv 5 (fun _ => xmv) ?_
   refine zdv 6 (fun _ => (xix (kk := i) sl_22 hB2.slh)) ?_
   refine zdla 7 (fun w hS => (xlr (u := .int .i64 (g i)) pl_3 (hB2.below hS.below))) ?_
   refine zdv 8 (fun _ => xneq) ?_
   refine zdd <| ztn ?_
   refine zcif ?_ ?_ <;> intro hc
   ·
    refine zsr ?_
    refine zlv xas ?_
    refine zlt <| zrt <| zbr <| ztr <| ztr <| zbr <| ztr <| zf1 ⟨_, rfl, ?_⟩
    exact ⟨false_B (by rintro ⟨h1, h2⟩; first | omega | exact absurd (h2 i h0 (by omega)) (by omega)), hS⟩
   refine zsk <| zbn <| ztn <| zrg ?_
   refine zlv xmv ?_
   refine zlv (xadd (r := i + 1)) ?_
   refine zlv xas ?_
   refine zln <| zlq ⟨i + 1, rfl, (by omega), (by omega), ?_, rfl, hS⟩
   ·
    intro k h0' h1'; rcases Int.lt_or_eq_of_le (show k ≤ i by omega) with hk | hk; exact hall k h0' hk; rw [hk]; omega
  refine zxt <| ztx <| ztx <| zbh <| ztn <| zsr ?_
  refine zlv xas ?_
  refine zlt <| zrt <| zf1 ⟨_, rfl, ?_⟩
  exact ⟨true_B ⟨by omega, fun k k0 k1 => hall k k0 (by omega)⟩, hS⟩

def SameT (t u : Tb) : Prop := t.vars = u.vars ∧ t.den = u.den ∧ (t.nb = u.nb ∧ ∀ k, 0 ≤ k → k < t.nb → t.B k = u.B k) ∧ (t.nf = u.nf ∧ ∀ k, 0 ≤ k → k < t.nf → t.F k = u.F k) ∧ t.nc = u.nc ∧ ∀ i, 0 ≤ i → i < t.nc → (t.ln i) = (u.ln i) ∧ ∀ j, 0 ≤ j → j < (t.ln i) → (t.C i) j = (u.C i) j

def LitP (t : Tb) : Prop := (∀ k, 0 ≤ k → k < t.nc → t.ln k ≤ 20) ∧ t.nf ≤ 12 ∧ t.nb ≤ 8 ∧ t.nc ≤ 20

theorem all_cat (t : Tb) {k : Int} (k0 : 0 ≤ k) : (cat t.nb (cat 0 (fun _ => 0) t.B) t.F) k = cat t.nb t.B t.F k := by
  unfold cat; (repeat' split) <;> first | rfl | omega | (congr 1; omega)
theorem all_perm {t : Tb} (hp : TPrp t) (hm : 0 ≤ t.nb) : PermF (cat t.nb (cat 0 (fun _ => 0) t.B) t.F) (t.nb + t.nf) :=
  (perm_swap (by have := hp.n1; omega) hm hp.perm).congr fun k k0 _ => (all_cat t k0).symm

set_option maxRecDepth 20000 in
theorem c_rproper {vB vF vC : Value} {vv : Int → Value} {t : Tb} (w0 : World) (hT : TAt w0 vB vF vC vv t) :
    Calls Tryz.prog 176 [.agg #[.int .i64 t.vars, .int .i64 t.den, vB, vF, vC]].toArray w0 fun e w => ∃ v, e = .returned v ∧ v = B (TPrp t) ∧ Sat w0 w [] := by
  have hn := hT.F.slh.n0; have hn1 := hT.F.slh.n1; have hb := hT.B.slh.n0; have hb1 := hT.B.slh.n1; have hc0 := hT.C.row.slh.n0; have hc1 := hT.C.row.slh.n1
  refine zenG Tryz.func176 Tryz.ntmps176 fun w hS => ?_
  refine zsr ?_
  refine zla (xbx (cs := [_, _, _, _, _]) hS) ?_; rintro _ w ⟨g1, rfl, hS⟩
  replace hS := hS.n1
  refine zlv xas ?_
  refine zlt <| zsq ?_
  refine zdst [0] [0] 1000 mx_ hS ?_; clear hS; intro w hS
  refine zdv 0 (fun _ => (xfb 2 fd_175_2)) ?_
  refine zdla 1 (fun w hS => (xlb 0 pl_22 hS)) ?_
  refine zdv 2 (fun _ => (xln sl_22 hT.B.slh)) ?_
  refine zdv 3 (fun _ => (xfb 3 fd_175_3)) ?_
  refine zdla 4 (fun w hS => (xlb 0 pl_22 hS)) ?_
  refine zdv 5 (fun _ => (xln sl_22 hT.F.slh)) ?_
  refine zdv 6 (fun _ => xas) ?_
  refine zdv 7 (fun _ => xas) ?_
  refine zdd <| ztn <| zsq <| zsr ?_
  refine zs3 ?_
  refine zlb 17 ?_ ?_ <;> intro hc
  ·
   iterate 2 refine zlo ?_
   refine zs2 ?_
   iterate 2 refine zlo ?_
   refine zs2 ?_
   iterate 4 refine zlo ?_
   refine zs2 ?_
   iterate 6 refine zlo ?_
   refine zs2 ?_
   iterate 3 refine zlo ?_
   refine zs2 ?_
   iterate 3 refine zlo ?_
   refine zlv xpt ?_
   refine zlt <| zct <| zsr ?_
   refine zlv xas ?_
   refine zlt <| zrt <| ztr <| zf1 ⟨_, rfl, ?_⟩
   exact ⟨false_B (by
    intro hp; have b1 := hp.n1; have b2 := hp.n2; have b3 := hp.m2; have b4 := hp.v; have b5 := hp.d1; have b6 := hp.d2; have b7 := hp.c; have b8 := all_perm hp (by omega)
    first
    | omega
    | (have hr := (hp.rows i h0 (by omega)).1; omega)
    | exact absurd (fun j j0 j1 => (hp.rows i h0 (by omega)).2 j j0 j1) ‹¬ (∀ k, 0 ≤ k → k < t.ln i → -1073741824 ≤ t.C i k ∧ t.C i k ≤ 1073741824)›
    | (have := b8.1 q q0 (by omega); omega)
    | (obtain ⟨j, j0, j1, e⟩ := ‹∃ j, 0 ≤ j ∧ j < q ∧ (cat t.nb (cat 0 (fun _ => 0) t.B) t.F) j = (cat t.nb (cat 0 (fun _ => 0) t.B) t.F) q›; have := b8.2 j q j0 (by omega) q0 (by omega) e; omega)), hS.nl⟩
  refine zs4 ?_
  refine zlb 21 ?_ ?_ <;> intro hc
  ·
   iterate 2 refine zlo ?_
   refine zs2 ?_
   iterate 4 refine zlo ?_
   refine zs2 ?_
   iterate 6 refine zlo ?_
   refine zs2 ?_
   iterate 3 refine zlo ?_
   refine zs2 ?_
   iterate 3 refine zlo ?_
   refine zlv xpt ?_
   refine zlt <| zct <| zsr ?_
   refine zlv xas ?_
   refine zlt <| zrt <| ztr <| zf1 ⟨_, rfl, ?_⟩
   exact ⟨false_B (by
    intro hp; have b1 := hp.n1; have b2 := hp.n2; have b3 := hp.m2; have b4 := hp.v; have b5 := hp.d1; have b6 := hp.d2; have b7 := hp.c; have b8 := all_perm hp (by omega)
    first
    | omega
    | (have hr := (hp.rows i h0 (by omega)).1; omega)
    | exact absurd (fun j j0 j1 => (hp.rows i h0 (by omega)).2 j j0 j1) ‹¬ (∀ k, 0 ≤ k → k < t.ln i → -1073741824 ≤ t.C i k ∧ t.C i k ≤ 1073741824)›
    | (have := b8.1 q q0 (by omega); omega)
    | (obtain ⟨j, j0, j1, e⟩ := ‹∃ j, 0 ≤ j ∧ j < q ∧ (cat t.nb (cat 0 (fun _ => 0) t.B) t.F) j = (cat t.nb (cat 0 (fun _ => 0) t.B) t.F) q›; have := b8.2 j q j0 (by omega) q0 (by omega) e; omega)), hS.nl⟩
  refine zs4 ?_
  refine zlb 25 ?_ ?_ <;> intro hc
  ·
   iterate 4 refine zlo ?_
   refine zs2 ?_
   iterate 6 refine zlo ?_
   refine zs2 ?_
   iterate 3 refine zlo ?_
   refine zs2 ?_
   iterate 3 refine zlo ?_
   refine zlv xpt ?_
   refine zlt <| zct <| zsr ?_
   refine zlv xas ?_
   refine zlt <| zrt <| ztr <| zf1 ⟨_, rfl, ?_⟩
   exact ⟨false_B (by
    intro hp; have b1 := hp.n1; have b2 := hp.n2; have b3 := hp.m2; have b4 := hp.v; have b5 := hp.d1; have b6 := hp.d2; have b7 := hp.c; have b8 := all_perm hp (by omega)
    first
    | omega
    | (have hr := (hp.rows i h0 (by omega)).1; omega)
    | exact absurd (fun j j0 j1 => (hp.rows i h0 (by omega)).2 j j0 j1) ‹¬ (∀ k, 0 ≤ k → k < t.ln i → -1073741824 ≤ t.C i k ∧ t.C i k ≤ 1073741824)›
    | (have := b8.1 q q0 (by omega); omega)
    | (obtain ⟨j, j0, j1, e⟩ := ‹∃ j, 0 ≤ j ∧ j < q ∧ (cat t.nb (cat 0 (fun _ => 0) t.B) t.F) j = (cat t.nb (cat 0 (fun _ => 0) t.B) t.F) q›; have := b8.2 j q j0 (by omega) q0 (by omega) e; omega)), hS.nl⟩
  refine zlv (xfb 0 fd_175_0) ?_
  refine zlv (xlb 0 pl_3 hS) ?_
  refine zs4 ?_
  refine zlb 31 ?_ ?_ <;> intro hc
  ·
   iterate 6 refine zlo ?_
   refine zs2 ?_
   iterate 3 refine zlo ?_
   refine zs2 ?_
   iterate 3 refine zlo ?_
   refine zlv xpt ?_
   refine zlt <| zct <| zsr ?_
   refine zlv xas ?_
   refine zlt <| zrt <| ztr <| zf1 ⟨_, rfl, ?_⟩
   exact ⟨false_B (by
    intro hp; have b1 := hp.n1; have b2 := hp.n2; have b3 := hp.m2; have b4 := hp.v; have b5 := hp.d1; have b6 := hp.d2; have b7 := hp.c; have b8 := all_perm hp (by omega)
    first
    | omega
    | (have hr := (hp.rows i h0 (by omega)).1; omega)
    | exact absurd (fun j j0 j1 => (hp.rows i h0 (by omega)).2 j j0 j1) ‹¬ (∀ k, 0 ≤ k → k < t.ln i → -1073741824 ≤ t.C i k ∧ t.C i k ≤ 1073741824)›
    | (have := b8.1 q q0 (by omega); omega)
    | (obtain ⟨j, j0, j1, e⟩ := ‹∃ j, 0 ≤ j ∧ j < q ∧ (cat t.nb (cat 0 (fun _ => 0) t.B) t.F) j = (cat t.nb (cat 0 (fun _ => 0) t.B) t.F) q›; have := b8.2 j q j0 (by omega) q0 (by omega) e; omega)), hS.nl⟩
  refine zlv (xfb 4 fd_175_4) ?_
  refine zlv (xlb 0 pl_27 hS) ?_
  refine zlv (xln sl_27 hT.C.row.slh) ?_
  refine zlv xmv ?_
  refine zlv (xadd (r := t.nb + 1)) ?_
  refine zs3 ?_
  refine zlb 39 ?_ ?_ <;> intro hc
  ·
   iterate 3 refine zlo ?_
   refine zs2 ?_
   iterate 3 refine zlo ?_
   refine zlv xpt ?_
   refine zlt <| zct <| zsr ?_
   refine zlv xas ?_
   refine zlt <| zrt <| ztr <| zf1 ⟨_, rfl, ?_⟩
   exact ⟨false_B (by
    intro hp; have b1 := hp.n1; have b2 := hp.n2; have b3 := hp.m2; have b4 := hp.v; have b5 := hp.d1; have b6 := hp.d2; have b7 := hp.c; have b8 := all_perm hp (by omega)
    first
    | omega
    | (have hr := (hp.rows i h0 (by omega)).1; omega)
    | exact absurd (fun j j0 j1 => (hp.rows i h0 (by omega)).2 j j0 j1) ‹¬ (∀ k, 0 ≤ k → k < t.ln i → -1073741824 ≤ t.C i k ∧ t.C i k ≤ 1073741824)›
    | (have := b8.1 q q0 (by omega); omega)
    | (obtain ⟨j, j0, j1, e⟩ := ‹∃ j, 0 ≤ j ∧ j < q ∧ (cat t.nb (cat 0 (fun _ => 0) t.B) t.F) j = (cat t.nb (cat 0 (fun _ => 0) t.B) t.F) q›; have := b8.2 j q j0 (by omega) q0 (by omega) e; omega)), hS.nl⟩
  refine zlv (xfb 1 fd_175_1) ?_
  refine zlv (xlb 0 pl_3 hS) ?_
  refine zs3 ?_
  refine zlb 44 ?_ ?_ <;> intro hc
  ·
   iterate 3 refine zlo ?_
   refine zlv xpt ?_
   refine zlt <| zct <| zsr ?_
   refine zlv xas ?_
   refine zlt <| zrt <| ztr <| zf1 ⟨_, rfl, ?_⟩
   exact ⟨false_B (by
    intro hp; have b1 := hp.n1; have b2 := hp.n2; have b3 := hp.m2; have b4 := hp.v; have b5 := hp.d1; have b6 := hp.d2; have b7 := hp.c; have b8 := all_perm hp (by omega)
    first
    | omega
    | (have hr := (hp.rows i h0 (by omega)).1; omega)
    | exact absurd (fun j j0 j1 => (hp.rows i h0 (by omega)).2 j j0 j1) ‹¬ (∀ k, 0 ≤ k → k < t.ln i → -1073741824 ≤ t.C i k ∧ t.C i k ≤ 1073741824)›
    | (have := b8.1 q q0 (by omega); omega)
    | (obtain ⟨j, j0, j1, e⟩ := ‹∃ j, 0 ≤ j ∧ j < q ∧ (cat t.nb (cat 0 (fun _ => 0) t.B) t.F) j = (cat t.nb (cat 0 (fun _ => 0) t.B) t.F) q›; have := b8.2 j q j0 (by omega) q0 (by omega) e; omega)), hS.nl⟩
  refine zlv (xfb 1 fd_175_1) ?_
  refine zlv (xlb 0 pl_3 hS) ?_
  refine zs2 ?_
  refine zlt ?_
  refine zcif ?_ ?_ <;> intro hc
  ·
   refine zsr ?_
   refine zlv xas ?_
   refine zlt <| zrt <| ztr <| zf1 ⟨_, rfl, ?_⟩
   exact ⟨false_B (by
    intro hp; have b1 := hp.n1; have b2 := hp.n2; have b3 := hp.m2; have b4 := hp.v; have b5 := hp.d1; have b6 := hp.d2; have b7 := hp.c; have b8 := all_perm hp (by omega)
    first
    | omega
    | (have hr := (hp.rows i h0 (by omega)).1; omega)
    | exact absurd (fun j j0 j1 => (hp.rows i h0 (by omega)).2 j j0 j1) ‹¬ (∀ k, 0 ≤ k → k < t.ln i → -1073741824 ≤ t.C i k ∧ t.C i k ≤ 1073741824)›
    | (have := b8.1 q q0 (by omega); omega)
    | (obtain ⟨j, j0, j1, e⟩ := ‹∃ j, 0 ≤ j ∧ j < q ∧ (cat t.nb (cat 0 (fun _ => 0) t.B) t.F) j = (cat t.nb (cat 0 (fun _ => 0) t.B) t.F) q›; have := b8.2 j q j0 (by omega) q0 (by omega) e; omega)), hS.nl⟩
  refine zsk <| ztn <| zsq <| zsr ?_
  refine zlv xas ?_
  refine zlt <| zbk <| zlp (fun mm M w => ∃ (i : Int), mm = ((t.nc - i).toNat) ∧ (0 ≤ i) ∧ (i ≤ t.nc) ∧ (∀ k, 0 ≤ k → k < i → t.rowOk k) ∧ M = [(1, .pointer (some ⟨g1, 0, none⟩)), (3, .int .i64 t.nb), (4, .int .i64 t.nf), (5, .int .i64 i)] ∧ Sat w0 w [.blk g1 [.int .i64 t.vars, .int .i64 t.den, vB, vF, vC]]) ⟨0, rfl, (by omega), (by omega), ?_, rfl, hS⟩ ?_
  ·
   intro k k0 k1; omega
  clear hS w
  rintro mm M w ⟨i, rfl, h0, h1, hall, rfl, hS⟩
  refine zsq <| zsr ?_
  refine zlv xmv ?_
  refine zlv (xfb 4 fd_175_4) ?_
  refine zlv (xlb 0 pl_27 hS) ?_
  refine zlv (xln sl_27 hT.C.row.slh) ?_
  refine zlv xlss ?_
  refine zlt ?_
  refine zcif ?_ ?_ <;> intro hc
  ·
   refine zsk <| ztn <| zsq <| zbk <| zsr ?_
   refine zlv (xfb 4 fd_175_4) ?_
   refine zlv (xlb 0 pl_27 hS) ?_
   refine zlv xmv ?_
   refine zlv (xix (kk := i) sl_27 hT.C.row.slh) ?_
   refine zlv (xlr (u := (vv i)) pl_22 (hT.C.row.below hS.below)) ?_
   refine zlv (xln sl_22 (hT.C.p i (by omega) (by omega)).slh) ?_
   refine zlv xmv ?_
   refine zlv (xadd (r := t.nf + 1)) ?_
   refine zs2 ?_
   refine zlb 65 ?_ ?_ <;> intro hc
   ·
    iterate 7 refine zlo ?_
    refine zlv xpt ?_
    refine zlt <| zct <| zsr ?_
    refine zlv xas ?_
    refine zlt <| zrt <| zbr <| ztr <| ztr <| zbr <| ztr <| zf1 ⟨_, rfl, ?_⟩
    exact ⟨false_B (by
     intro hp; have b1 := hp.n1; have b2 := hp.n2; have b3 := hp.m2; have b4 := hp.v; have b5 := hp.d1; have b6 := hp.d2; have b7 := hp.c; have b8 := all_perm hp (by omega)
     first
     | omega
     | (have hr := (hp.rows i h0 (by omega)).1; omega)
     | exact absurd (fun j j0 j1 => (hp.rows i h0 (by omega)).2 j j0 j1) ‹¬ (∀ k, 0 ≤ k → k < t.ln i → -1073741824 ≤ t.C i k ∧ t.C i k ≤ 1073741824)›
     | (have := b8.1 q q0 (by omega); omega)
     | (obtain ⟨j, j0, j1, e⟩ := ‹∃ j, 0 ≤ j ∧ j < q ∧ (cat t.nb (cat 0 (fun _ => 0) t.B) t.F) j = (cat t.nb (cat 0 (fun _ => 0) t.B) t.F) q›; have := b8.2 j q j0 (by omega) q0 (by omega) e; omega)), hS.nl⟩
   refine zlv (xfb 4 fd_175_4) ?_
   refine zlv (xlb 0 pl_27 hS) ?_
   refine zlv xmv ?_
   refine zlv (xix (kk := i) sl_27 hT.C.row.slh) ?_
   refine zlv (xlr (u := (vv i)) pl_22 (hT.C.row.below hS.below)) ?_
   refine zlc (xc0 cl_175) (c_within (n := (t.ln i)) (lo := (-1073741824)) (hi := 1073741824) (f := (t.C i)) w ((hT.C.p i (by omega) (by omega)).below hS.below)) ?_; rintro _ w ⟨rfl, hS'⟩
   replace hS := hS.cmp hS'; clear hS'
   refine zs2 ?_
   refine zlt ?_
   refine zcif ?_ ?_ <;> intro hc
   ·
    refine zsr ?_
    refine zlv xas ?_
    refine zlt <| zrt <| zbr <| ztr <| ztr <| zbr <| ztr <| zf1 ⟨_, rfl, ?_⟩
    exact ⟨false_B (by
     intro hp; have b1 := hp.n1; have b2 := hp.n2; have b3 := hp.m2; have b4 := hp.v; have b5 := hp.d1; have b6 := hp.d2; have b7 := hp.c; have b8 := all_perm hp (by omega)
     first
     | omega
     | (have hr := (hp.rows i h0 (by omega)).1; omega)
     | exact absurd (fun j j0 j1 => (hp.rows i h0 (by omega)).2 j j0 j1) ‹¬ (∀ k, 0 ≤ k → k < t.ln i → -1073741824 ≤ t.C i k ∧ t.C i k ≤ 1073741824)›
     | (have := b8.1 q q0 (by omega); omega)
     | (obtain ⟨j, j0, j1, e⟩ := ‹∃ j, 0 ≤ j ∧ j < q ∧ (cat t.nb (cat 0 (fun _ => 0) t.B) t.F) j = (cat t.nb (cat 0 (fun _ => 0) t.B) t.F) q›; have := b8.2 j q j0 (by omega) q0 (by omega) e; omega)), hS.nl⟩
   refine zsk <| zbn <| ztn <| zrg ?_
   refine zlv xmv ?_
   refine zlv (xadd (r := i + 1)) ?_
   refine zlv xas ?_
   refine zln <| zlq ⟨i + 1, rfl, (by omega), (by omega), ?_, rfl, hS⟩
   ·
    have hq : ∀ k, 0 ≤ k → k < t.ln i → -1073741824 ≤ t.C i k ∧ t.C i k ≤ 1073741824 := by first | assumption | exact Classical.not_not.1 ‹_›
    intro k h0' h1'; rcases Int.lt_or_eq_of_le (show k ≤ i by omega) with hk | hk; exact hall k h0' hk; rw [hk]; exact ⟨by omega, fun j j0 j1 => hq j j0 j1⟩
  refine zxt <| ztx <| ztx <| zbh <| ztn <| zsq ?_
  refine zdst [0] [0] 1000 mx_ hS ?_; clear hS; intro w hS
  refine zdv 1 (fun _ => (xfb 2 fd_175_2)) ?_
  refine zdla 2 (fun w hS => (xlb 0 pl_22 hS)) ?_
  refine zdv 4 (fun _ => (xfb 3 fd_175_3)) ?_
  refine zdla 5 (fun w hS => (xlb 0 pl_22 hS)) ?_
  refine zda 0 (xl0 (c := ints (fun _ => 0)) sl_22 hS) ?_; rintro v1 w ⟨hS, hv1⟩
  replace hS := hS.n2
  refine ⟨⟨fun _ => hS.pk [0], hS.pk [0]⟩, ?_⟩
  refine zda 3 (xap 1 (r := t.nb) (f := ints (cat 0 (fun _ => 0) t.B)) sl_22 el_3 hS (hT.B.below hS.below) (by exact cat_ints1 _ _ _)) ?_; rintro v2 w ⟨hS, hv2⟩
  replace hS := hS.n2
  refine ⟨⟨fun _ => hS.pk [0], hS.pk [0]⟩, ?_⟩
  refine zda 6 (xap 1 (r := t.nb + t.nf) (f := ints (cat t.nb (cat 0 (fun _ => 0) t.B) t.F)) sl_22 el_3 hS (hT.F.below hS.below) (by exact cat_ints1 _ _ _)) ?_; rintro v3 w ⟨hS, hv3⟩
  replace hS := hS.n2
  refine ⟨⟨fun _ => hS.pk [0], hS.pk [0]⟩, ?_⟩
  refine zdv 7 (fun _ => xas) ?_
  refine zdd <| ztn <| zsr ?_
  refine zs2 ?_
  refine zlv (xadd (r := t.nb + t.nf)) ?_
  refine zla (xmk sl_162 el_4 hS) ?_; rintro v4 w ⟨hS, hv4⟩
  replace hS := hS.n3
  refine zlv xas ?_
  refine zlt <| zsq <| zsr ?_
  refine zlv xas ?_
  refine zlt <| zbk <| zlp (fun mm M w => ∃ (cS : Int → Value) (q : Int), mm = ((t.nb + t.nf - q).toNat) ∧ (0 ≤ q) ∧ (q ≤ t.nb + t.nf) ∧ (∀ k, 0 ≤ k → k < t.nb + t.nf → cS k = B (∃ j, 0 ≤ j ∧ j < q ∧ (cat t.nb (cat 0 (fun _ => 0) t.B) t.F) j = k)) ∧ (∀ k, 0 ≤ k → k < q → 0 ≤ (cat t.nb (cat 0 (fun _ => 0) t.B) t.F) k ∧ (cat t.nb (cat 0 (fun _ => 0) t.B) t.F) k < t.nb + t.nf) ∧ (∀ k j, 0 ≤ k → k < q → 0 ≤ j → j < q → (cat t.nb (cat 0 (fun _ => 0) t.B) t.F) k = (cat t.nb (cat 0 (fun _ => 0) t.B) t.F) j → k = j) ∧ M = [(3, .int .i64 t.nb), (4, .int .i64 t.nf), (6, v3), (7, v4), (8, .int .i64 q)] ∧ Sat w0 w [.blk g1 [.int .i64 t.vars, .int .i64 t.den, vB, vF, vC], .own v3 1 3 (t.nb + t.nf) (ints (cat t.nb (cat 0 (fun _ => 0) t.B) t.F)), .own v4 1 4 (t.nb + t.nf) cS]) ⟨(fun _ => .bool false), 0, rfl, (by omega), (by omega), ?_, ?_, ?_, rfl, hS⟩ ?_
  ·
   intro k k0 k1; exact (B_false (by rintro ⟨j, j0, j1, _⟩; omega)).symm
  ·
   intro k k0 k1; omega
  ·
   intro k j k0 k1; omega
  clear hS w
  rintro mm M w ⟨cS, q, rfl, q0, q1, hcS, hrg, hin, rfl, hS⟩
  refine zsq <| zsr ?_
  refine zs2 ?_
  refine zlv (xln sl_22 hv3) ?_
  refine zlv xlss ?_
  refine zlt ?_
  refine zcif ?_ ?_ <;> intro hc
  ·
   refine zsk <| ztn <| zsq <| zbk <| zsq <| zsr ?_
   refine zs2 ?_
   refine zlv (xix (kk := q) sl_22 hv3) ?_
   refine zlv (xlr (u := .int .i64 ((cat t.nb (cat 0 (fun _ => 0) t.B) t.F) q)) pl_3 (hS.rowN 1 rfl)) ?_
   refine zs2 ?_
   refine zlb 96 ?_ ?_ <;> intro hc
   ·
    iterate 8 refine zlo ?_
    refine zs2 ?_
    iterate 7 refine zlo ?_
    refine zlv xpt ?_
    refine zlt <| zct <| zsr ?_
    refine zlv xas ?_
    refine zlt <| zrt <| ztr <| zbr <| ztr <| ztr <| zbr <| ztr <| zf1 ⟨_, rfl, ?_⟩
    exact ⟨false_B (by
     intro hp; have b1 := hp.n1; have b2 := hp.n2; have b3 := hp.m2; have b4 := hp.v; have b5 := hp.d1; have b6 := hp.d2; have b7 := hp.c; have b8 := all_perm hp (by omega)
     first
     | omega
     | (have hr := (hp.rows i h0 (by omega)).1; omega)
     | exact absurd (fun j j0 j1 => (hp.rows i h0 (by omega)).2 j j0 j1) ‹¬ (∀ k, 0 ≤ k → k < t.ln i → -1073741824 ≤ t.C i k ∧ t.C i k ≤ 1073741824)›
     | (have := b8.1 q q0 (by omega); omega)
     | (obtain ⟨j, j0, j1, e⟩ := ‹∃ j, 0 ≤ j ∧ j < q ∧ (cat t.nb (cat 0 (fun _ => 0) t.B) t.F) j = (cat t.nb (cat 0 (fun _ => 0) t.B) t.F) q›; have := b8.2 j q j0 (by omega) q0 (by omega) e; omega)), hS.nl⟩
   refine zs2 ?_
   refine zlv (xix (kk := q) sl_22 hv3) ?_
   refine zlv (xlr (u := .int .i64 ((cat t.nb (cat 0 (fun _ => 0) t.B) t.F) q)) pl_3 (hS.rowN 1 rfl)) ?_
   refine zs2 ?_
   refine zlv (xadd (r := t.nb + t.nf)) ?_
   refine zs3 ?_
   refine zlb 106 ?_ ?_ <;> intro hc
   ·
    iterate 7 refine zlo ?_
    refine zlv xpt ?_
    refine zlt <| zct <| zsr ?_
    refine zlv xas ?_
    refine zlt <| zrt <| ztr <| zbr <| ztr <| ztr <| zbr <| ztr <| zf1 ⟨_, rfl, ?_⟩
    exact ⟨false_B (by
     intro hp; have b1 := hp.n1; have b2 := hp.n2; have b3 := hp.m2; have b4 := hp.v; have b5 := hp.d1; have b6 := hp.d2; have b7 := hp.c; have b8 := all_perm hp (by omega)
     first
     | omega
     | (have hr := (hp.rows i h0 (by omega)).1; omega)
     | exact absurd (fun j j0 j1 => (hp.rows i h0 (by omega)).2 j j0 j1) ‹¬ (∀ k, 0 ≤ k → k < t.ln i → -1073741824 ≤ t.C i k ∧ t.C i k ≤ 1073741824)›
     | (have := b8.1 q q0 (by omega); omega)
     | (obtain ⟨j, j0, j1, e⟩ := ‹∃ j, 0 ≤ j ∧ j < q ∧ (cat t.nb (cat 0 (fun _ => 0) t.B) t.F) j = (cat t.nb (cat 0 (fun _ => 0) t.B) t.F) q›; have := b8.2 j q j0 (by omega) q0 (by omega) e; omega)), hS.nl⟩
   refine zs3 ?_
   refine zlv (xix (kk := q) sl_22 hv3) ?_
   refine zlv (xlr (u := .int .i64 ((cat t.nb (cat 0 (fun _ => 0) t.B) t.F) q)) pl_3 (hS.rowN 1 rfl)) ?_
   refine zlv (xix (kk := (cat t.nb (cat 0 (fun _ => 0) t.B) t.F) q) sl_162 hv4) ?_
   refine zlv (xlr (u := B (∃ j, 0 ≤ j ∧ j < q ∧ (cat t.nb (cat 0 (fun _ => 0) t.B) t.F) j = (cat t.nb (cat 0 (fun _ => 0) t.B) t.F) q)) pl_4 (hS.rowN 2 rfl) (e := (hcS _ (by omega) (by omega)))) ?_
   refine zlv xpf ?_
   refine zlt ?_
   refine zcif ?_ ?_ <;> intro hc
   ·
    refine zsr ?_
    refine zlv xas ?_
    refine zlt <| zrt <| ztr <| zbr <| ztr <| ztr <| zbr <| ztr <| zf1 ⟨_, rfl, ?_⟩
    exact ⟨false_B (by
     intro hp; have b1 := hp.n1; have b2 := hp.n2; have b3 := hp.m2; have b4 := hp.v; have b5 := hp.d1; have b6 := hp.d2; have b7 := hp.c; have b8 := all_perm hp (by omega)
     first
     | omega
     | (have hr := (hp.rows i h0 (by omega)).1; omega)
     | exact absurd (fun j j0 j1 => (hp.rows i h0 (by omega)).2 j j0 j1) ‹¬ (∀ k, 0 ≤ k → k < t.ln i → -1073741824 ≤ t.C i k ∧ t.C i k ≤ 1073741824)›
     | (have := b8.1 q q0 (by omega); omega)
     | (obtain ⟨j, j0, j1, e⟩ := ‹∃ j, 0 ≤ j ∧ j < q ∧ (cat t.nb (cat 0 (fun _ => 0) t.B) t.F) j = (cat t.nb (cat 0 (fun _ => 0) t.B) t.F) q›; have := b8.2 j q j0 (by omega) q0 (by omega) e; omega)), hS.nl⟩
   refine zsk <| ztn <| zrg ?_
   refine zs3 ?_
   refine zlv (xix (kk := q) sl_22 hv3) ?_
   refine zlv (xlr (u := .int .i64 ((cat t.nb (cat 0 (fun _ => 0) t.B) t.F) q)) pl_3 (hS.rowN 1 rfl)) ?_
   refine zlv (xix (kk := (cat t.nb (cat 0 (fun _ => 0) t.B) t.F) q) sl_162 hv4) ?_
   refine zle (xso 2 pl_4 hS rfl) ?_; clear hS; rintro w hS
   replace hS := hS.n3
   refine zln <| zbn <| ztn <| zrg ?_
   refine zlv xmv ?_
   refine zlv (xadd (r := q + 1)) ?_
   refine zlv xas ?_
   refine zln <| zlq ⟨upd cS ((cat t.nb (cat 0 (fun _ => 0) t.B) t.F) q) (.bool true), q + 1, rfl, (by omega), (by omega), ?_, ?_, ?_, rfl, hS⟩
   ·
    intro k k0 k1; by_cases e : k = (cat t.nb (cat 0 (fun _ => 0) t.B) t.F) q
    · rw [e, upd_self]; exact (B_true ⟨q, q0, by omega, rfl⟩).symm
    · rw [upd_ne _ _ e, hcS k k0 k1]; exact B_congr ⟨fun ⟨j, j0, j1, h⟩ => ⟨j, j0, by omega, h⟩, fun ⟨j, j0, j1, h⟩ => ⟨j, j0, by rcases Int.lt_or_eq_of_le (show j ≤ q by omega) with hh | hh; exact hh; exact absurd (by rw [← h, hh]) e, h⟩⟩
   ·
    intro k k0 k1; rcases Int.lt_or_eq_of_le (show k ≤ q by omega) with hk | hk; exact hrg k k0 hk; rw [hk]; omega
   ·
    have hns : ¬ (∃ j, 0 ≤ j ∧ j < q ∧ (cat t.nb (cat 0 (fun _ => 0) t.B) t.F) j = (cat t.nb (cat 0 (fun _ => 0) t.B) t.F) q) := ‹_›
    intro k j k0 k1 j0 j1 e; rcases Int.lt_or_eq_of_le (show k ≤ q by omega) with hk | hk <;> rcases Int.lt_or_eq_of_le (show j ≤ q by omega) with hj | hj
    · exact hin k j k0 hk j0 hj e
    · exact absurd ⟨k, k0, hk, by rw [e, hj]⟩ hns
    · exact absurd ⟨j, j0, hj, by rw [← e, hk]⟩ hns
    · omega
  refine zxt <| ztx <| ztx <| zbh <| ztn <| zsr ?_
  refine zlv xas ?_
  refine zlt <| zrt <| zf1 ⟨_, rfl, ?_⟩
  obtain rfl : q = t.nb + t.nf := by omega
  have hpp : PermF (cat t.nb (cat 0 (fun _ => 0) t.B) t.F) (t.nb + t.nf) := ⟨hrg, hin⟩
  exact ⟨true_B ⟨by omega, by omega, by omega, by omega, by omega, by omega, by omega, perm_swap (by omega) (by omega) (hpp.congr fun k k0 _ => all_cat t k0), fun k k0 k1 => hall k k0 (by omega)⟩, hS.nl⟩

set_option maxRecDepth 20000 in
theorem c_leaving {vB vF vC : Value} {vv : Int → Value} {t : Tb} (w0 : World) (hT : TAt w0 vB vF vC vv t) (hp : TPrp t) :
    Calls Tryz.prog 177 [.agg #[.int .i64 t.vars, .int .i64 t.den, vB, vF, vC]].toArray w0 fun e w => ∃ v, e = .returned v ∧ v = .int .i64 (leav t t.nb.toNat) ∧ Sat w0 w [] := by
  have hn := hT.F.slh.n0; have hn1 := hT.F.slh.n1; have hb := hT.B.slh.n0; have hb1 := hT.B.slh.n1; have hc0 := hT.C.row.slh.n0; have hc1 := hT.C.row.slh.n1
  have b1 := hp.n1; have b2 := hp.n2; have b3 := hp.m2; have b4 := hp.v; have b5 := hp.d1; have b6 := hp.d2; have b7 := hp.c
  refine zenG Tryz.func177 Tryz.ntmps177 fun w hS => ?_
  refine zsr ?_
  refine zla (xbx (cs := [_, _, _, _, _]) hS) ?_; rintro _ w ⟨g1, rfl, hS⟩
  replace hS := hS.n1
  refine zlv xas ?_
  refine zlz ?_
  refine zlv xas ?_
  refine zlt <| zsq <| zsr ?_
  refine zlv xas ?_
  refine zlt <| zbk <| zlp (fun mm M w => ∃ (r : Int) (i : Int), mm = ((t.nb - i).toNat) ∧ (0 ≤ i) ∧ (i ≤ t.nb) ∧ (r = leav t i.toNat) ∧ M = [(1, .pointer (some ⟨g1, 0, none⟩)), (2, .int .i64 0), (3, .int .i64 r), (4, .int .i64 i)] ∧ Sat w0 w [.blk g1 [.int .i64 t.vars, .int .i64 t.den, vB, vF, vC]]) ⟨(-1), 0, rfl, (by omega), (by omega), ?_, rfl, hS⟩ ?_
  ·
   rfl
  clear hS w
  rintro mm M w ⟨r, i, rfl, h0, h1, hr, rfl, hS⟩
  have hrr := leav_rng t i.toNat; rw [← hr] at hrr
  refine zsq <| zsr ?_
  refine zlv xmv ?_
  refine zlv (xfb 2 fd_175_2) ?_
  refine zlv (xlb 0 pl_22 hS) ?_
  refine zlv (xln sl_22 hT.B.slh) ?_
  refine zlv xlss ?_
  refine zlt ?_
  refine zcif ?_ ?_ <;> intro hc
  ·
   refine zsk <| ztn <| zsq <| zbk <| zsq ?_
   refine zdst [0] [0] 1000 mx_ hS ?_; clear hS; intro w hS
   refine zdv 0 (fun _ => (xfb 4 fd_175_4)) ?_
   have hlen := hp.len (i := i + 1) (by omega) (by omega)
   refine zdla 1 (fun w hS => (xlb 0 pl_27 hS)) ?_
   refine zdv 2 (fun _ => xmv) ?_
   refine zdv 3 (fun _ => (xadd (r := i + 1))) ?_
   refine zdv 4 (fun _ => (xix (kk := i + 1) sl_27 hT.C.row.slh)) ?_
   refine zdla 5 (fun w hS => (xlr (u := (vv (i + 1))) pl_22 (hT.C.row.below hS.below))) ?_
   refine zdv 6 (fun _ => (xix (kk := 0) sl_22 (hT.C.p (i + 1) (by omega) (by omega)).slh)) ?_
   refine zdla 7 (fun w hS => (xlr (u := .int .i64 ((t.C (i + 1)) 0)) pl_3 ((hT.C.p (i + 1) (by omega) (by omega)).below hS.below))) ?_
   refine zdv 8 (fun _ => xlss) ?_
   refine zdv 9 (fun _ => xmv) ?_
   refine zdb 21 ?_ ?_ <;> intro hc
   ·
    refine zdv 10 (fun _ => xmv) ?_
    refine zdv 11 (fun _ => xlss) ?_
    refine zdv 12 (fun _ => xmv) ?_
    refine zdb 24 ?_ ?_ <;> intro hc
    ·
     refine zdof 13 ?_
     refine zdof 14 ?_
     refine zdof 15 ?_
     refine zdof 16 ?_
     refine zdof 17 ?_
     refine zdof 18 ?_
     refine zdof 19 ?_
     refine zdof 20 ?_
     refine zdof 21 ?_
     refine zdof 22 ?_
     refine zdof 23 ?_
     refine zdv 24 (fun _ => xpt) ?_
     refine zdv 25 (fun _ => xpt) ?_
     refine zdd <| ztn <| zct <| zrg ?_
     refine zs2 ?_
     refine zln <| zbn <| ztn <| zrg ?_
     refine zlv xmv ?_
     refine zlv (xadd (r := i + 1)) ?_
     refine zlv xas ?_
     refine zln <| zlq ⟨i, i + 1, rfl, (by omega), (by omega), ?_, rfl, hS⟩
     ·
      rw [leav_next t h0, ← hr]; split <;> omega
    refine zdv 13 (fun _ => (xfb 2 fd_175_2)) ?_
    refine zdla 14 (fun w hS => (xlb 0 pl_22 hS)) ?_
    refine zdv 15 (fun _ => xmv) ?_
    refine zdv 16 (fun _ => (xix (kk := i) sl_22 hT.B.slh)) ?_
    refine zdla 17 (fun w hS => (xlr (u := .int .i64 (t.B i)) pl_3 (hT.B.below hS.below))) ?_
    refine zdv 18 (fun _ => (xfb 2 fd_175_2)) ?_
    refine zdla 19 (fun w hS => (xlb 0 pl_22 hS)) ?_
    refine zdv 20 (fun _ => xmv) ?_
    refine zdv 21 (fun _ => (xix (kk := r) sl_22 hT.B.slh)) ?_
    refine zdla 22 (fun w hS => (xlr (u := .int .i64 (t.B r)) pl_3 (hT.B.below hS.below))) ?_
    refine zdv 23 (fun _ => xlss) ?_
    refine zdv 24 (fun _ => xpf) ?_
    refine zdv 25 (fun _ => xpt) ?_
    refine zdd <| ztn ?_
    refine zcif ?_ ?_ <;> intro hc
    ·
     refine zrg ?_
     refine zs2 ?_
     refine zln <| zbn <| ztn <| zrg ?_
     refine zlv xmv ?_
     refine zlv (xadd (r := i + 1)) ?_
     refine zlv xas ?_
     refine zln <| zlq ⟨i, i + 1, rfl, (by omega), (by omega), ?_, rfl, hS⟩
     ·
      rw [leav_next t h0, ← hr]; split <;> omega
    refine zsk <| zbn <| ztn <| zrg ?_
    refine zlv xmv ?_
    refine zlv (xadd (r := i + 1)) ?_
    refine zlv xas ?_
    refine zln <| zlq ⟨r, i + 1, rfl, (by omega), (by omega), ?_, rfl, hS⟩
    ·
     rw [leav_next t h0, ← hr]; split <;> omega
   refine zdof 10 ?_
   refine zdof 11 ?_
   refine zdof 12 ?_
   refine zdof 13 ?_
   refine zdof 14 ?_
   refine zdof 15 ?_
   refine zdof 16 ?_
   refine zdof 17 ?_
   refine zdof 18 ?_
   refine zdof 19 ?_
   refine zdof 20 ?_
   refine zdof 21 ?_
   refine zdof 22 ?_
   refine zdof 23 ?_
   refine zdof 24 ?_
   refine zdv 25 (fun _ => xpf) ?_
   refine zdd <| ztn <| zcf <| zsk <| zbn <| ztn <| zrg ?_
   refine zlv xmv ?_
   refine zlv (xadd (r := i + 1)) ?_
   refine zlv xas ?_
   refine zln <| zlq ⟨r, i + 1, rfl, (by omega), (by omega), ?_, rfl, hS⟩
   ·
    rw [leav_next t h0, ← hr]; split <;> omega
  refine zxt <| ztx <| ztx <| zbh <| ztn <| zsr ?_
  refine zs2 ?_
  refine zlt <| zrt <| zf1 ⟨_, rfl, ?_⟩
  obtain rfl : i = t.nb := by omega
  exact ⟨by rw [hr], hS.nl⟩

set_option maxRecDepth 20000 in
theorem c_rnext {vB vF vC : Value} {vv : Int → Value} {t : Tb} (w0 : World) (hT : TAt w0 vB vF vC vv t) :
    Calls Tryz.prog 159 [.agg #[.int .i64 t.vars, .int .i64 t.den, vB, vF, vC]].toArray w0 fun e w => ∃ v, e = .returned v ∧ ∃ r c d e, v = .tuple #[.int .i64 r, .int .i64 c, .bool d, .int .i64 e] ∧ NextR t r c d e ∧ Sat w0 w [] := by
  have hn := hT.F.slh.n0; have hn1 := hT.F.slh.n1; have hb := hT.B.slh.n0; have hb1 := hT.B.slh.n1; have hc0 := hT.C.row.slh.n0; have hc1 := hT.C.row.slh.n1
  refine zenG Tryz.func159 Tryz.ntmps159 fun w hS => ?_
  refine zsr ?_
  refine zla (xbx (cs := [_, _, _, _, _]) hS) ?_; rintro _ w ⟨g1, rfl, hS⟩
  replace hS := hS.n1
  refine zs4 ?_
  refine zlt <| zsq <| zsr ?_
  refine zlv (xls 0 st_175 hS) ?_
  refine zlc (xc0 cl_176) (c_rproper (t := t) w (hT.below hS.below)) ?_; rintro _ w ⟨rfl, hS'⟩
  replace hS := hS.cmp hS'; clear hS'
  refine zs2 ?_
  refine zlb 15 ?_ ?_ <;> intro hc
  ·
   iterate 7 refine zlo ?_
   refine zlv xpt ?_
   refine zlt <| zct <| zsr ?_
   refine zs4 ?_
   refine zlt <| zrt <| ztr <| zf4 ⟨_, rfl, ?_⟩
   refine ⟨_, _, _, _, rfl, .inl ⟨?_, rfl, rfl, rfl, rfl⟩, hS.nl⟩
   first | exact fun hh => absurd hh.1 ‹_› | (rintro ⟨_, hco⟩; exact absurd (show ∀ k, 0 ≤ k → k < t.ln 0 - 1 → 0 ≤ t.C 0 (k + 1) ∧ t.C 0 (k + 1) ≤ 1073741824 from fun k k0 k1 => ⟨hco (k + 1) (by omega) (by omega), (hp.cell (i := 0) (j := k + 1) (by omega) (by omega) (by omega) (by omega)).2⟩) (by assumption))
  refine zlv (xfb 4 fd_175_4) ?_
  refine zlv (xlb 0 pl_27 hS) ?_
  have hp : TPrp t := by first | assumption | exact Classical.not_not.1 ‹¬ ¬ (TPrp t)›
  have b1 := hp.n1
  have b2 := hp.n2
  have b3 := hp.m2
  have b4 := hp.v
  have b5 := hp.d1
  have b6 := hp.d2
  have b7 := hp.c
  have hl0 := hp.len (i := 0) (by omega) (by omega)
  refine zlv (xix (kk := 0) sl_27 hT.C.row.slh) ?_
  refine zlv (xlr (u := (vv 0)) pl_22 (hT.C.row.below hS.below)) ?_
  refine zlvr rfl rfl rfl (ex_slice_lo (q := 1) rfl sl_22 rfl rfl rfl (hT.C.p 0 (by omega) (by omega)).slh rfl (by omega) (by omega)) ?_
  refine zlc (xc0 cl_175) (c_within (n := ((t.ln 0) - 1)) (lo := 0) (hi := 1073741824) (f := (fun k => (t.C 0) (k + 1))) w ((suf_of (q := 1) (hT.C.p 0 (by omega) (by omega)).slh (hT.C.room 0 (by omega) (by omega)) (by omega)).row (by omega) ((hT.C.p 0 (by omega) (by omega)).below hS.below))) ?_; rintro _ w ⟨rfl, hS'⟩
  replace hS := hS.cmp hS'; clear hS'
  refine zs2 ?_
  refine zlt ?_
  refine zcif ?_ ?_ <;> intro hc
  ·
   refine zsr ?_
   refine zs4 ?_
   refine zlt <| zrt <| ztr <| zf4 ⟨_, rfl, ?_⟩
   refine ⟨_, _, _, _, rfl, .inl ⟨?_, rfl, rfl, rfl, rfl⟩, hS.nl⟩
   first | exact fun hh => absurd hh.1 ‹_› | (rintro ⟨_, hco⟩; exact absurd (show ∀ k, 0 ≤ k → k < t.ln 0 - 1 → 0 ≤ t.C 0 (k + 1) ∧ t.C 0 (k + 1) ≤ 1073741824 from fun k k0 k1 => ⟨hco (k + 1) (by omega) (by omega), (hp.cell (i := 0) (j := k + 1) (by omega) (by omega) (by omega) (by omega)).2⟩) (by assumption))
  refine zsk <| ztn <| zsr ?_
  refine zlv (xls 0 st_175 hS) ?_
  have hcq : ∀ k, 0 ≤ k → k < t.ln 0 - 1 → 0 ≤ t.C 0 (k + 1) ∧ t.C 0 (k + 1) ≤ 1073741824 := by first | assumption | exact Classical.not_not.1 ‹_›
  have hrr := leav_rng t t.nb.toNat
  refine zlc (xc0 cl_177) (c_leaving (t := t) w (hT.below hS.below) hp) ?_; rintro _ w ⟨rfl, hS'⟩
  replace hS := hS.cmp hS'; clear hS'
  refine zlv xas ?_
  refine zlt <| zsq <| zsr ?_
  refine zs2 ?_
  refine zlt ?_
  refine zcif ?_ ?_ <;> intro hc
  ·
   refine zsr ?_
   refine zs4 ?_
   refine zlt <| zrt <| ztr <| zf4 ⟨_, rfl, ?_⟩
   exact ⟨_, _, _, _, rfl, .inr (.inl ⟨hp, (fun j j0 j1 => by have := hcq (j - 1) (by omega) (by omega); rw [show j - 1 + 1 = j by omega] at this; omega), by omega, rfl, rfl, rfl, rfl⟩), hS.nl⟩
  refine zsk <| ztn <| zsr ?_
  refine zlv xas ?_
  refine zlt <| zsq <| zsr ?_
  refine zlv xas ?_
  refine zlt <| zbk <| zlp (fun mm M w => ∃ (c : Int) (j : Int), mm = ((t.nf - j).toNat) ∧ (0 ≤ j) ∧ (j ≤ t.nf) ∧ (c = entr t (leav t t.nb.toNat) j.toNat) ∧ M = [(1, .pointer (some ⟨g1, 0, none⟩)), (2, .int .i64 0), (3, .int .i64 0), (4, .bool false), (5, .int .i64 0), (6, .int .i64 (leav t t.nb.toNat)), (7, .int .i64 c), (8, .int .i64 j)] ∧ Sat w0 w [.blk g1 [.int .i64 t.vars, .int .i64 t.den, vB, vF, vC]]) ⟨(-1), 0, rfl, (by omega), (by omega), ?_, rfl, hS⟩ ?_
  ·
   rfl
  clear hS w
  rintro mm M w ⟨c, j, rfl, j0, j1, hcc, rfl, hS⟩
  have hcr := entr_rng t (leav t t.nb.toNat) j.toNat; rw [← hcc] at hcr
  refine zsq <| zsr ?_
  refine zlv xmv ?_
  refine zlv (xfb 3 fd_175_3) ?_
  refine zlv (xlb 0 pl_22 hS) ?_
  refine zlv (xln sl_22 hT.F.slh) ?_
  refine zlv xlss ?_
  refine zlt ?_
  refine zcif ?_ ?_ <;> intro hc
  ·
   refine zsk <| ztn <| zsq <| zbk <| zsr ?_
   refine zlv (xfb 4 fd_175_4) ?_
   refine zlv (xlb 0 pl_27 hS) ?_
   refine zlv xmv ?_
   have hlr := hp.len (i := (leav t t.nb.toNat) + 1) (by omega) (by omega)
   refine zlv (xadd (r := (leav t t.nb.toNat) + 1)) ?_
   refine zlv (xix (kk := (leav t t.nb.toNat) + 1) sl_27 hT.C.row.slh) ?_
   refine zlv (xlr (u := (vv ((leav t t.nb.toNat) + 1))) pl_22 (hT.C.row.below hS.below)) ?_
   refine zlv xmv ?_
   refine zlv (xadd (r := j + 1)) ?_
   refine zlv (xix (kk := j + 1) sl_22 (hT.C.p ((leav t t.nb.toNat) + 1) (by omega) (by omega)).slh) ?_
   refine zlv (xlr (u := .int .i64 ((t.C ((leav t t.nb.toNat) + 1)) (j + 1))) pl_3 ((hT.C.p ((leav t t.nb.toNat) + 1) (by omega) (by omega)).below hS.below)) ?_
   refine zlv xas ?_
   refine zlt <| zsq <| zsr ?_
   refine zs2 ?_
   refine zlt ?_
   refine zcif ?_ ?_ <;> intro hc
   ·
    refine zxt <| ztx <| zbh <| ztn <| zrg ?_
    refine zlv xmv ?_
    refine zlv (xadd (r := j + 1)) ?_
    refine zlv xas ?_
    refine zln <| zlq ⟨c, j + 1, rfl, (by omega), (by omega), ?_, rfl, hS⟩
    ·
     rw [entr_next t (leav t t.nb.toNat) j0, ← hcc]; (repeat' split) <;> omega
   refine zsk <| ztn <| zsq <| zsr ?_
   refine zs2 ?_
   refine zlt ?_
   refine zcif ?_ ?_ <;> intro hc
   ·
    refine zsr ?_
    refine zs2 ?_
    refine zlt <| zxt <| ztx <| zbh <| ztn <| zrg ?_
    refine zlv xmv ?_
    refine zlv (xadd (r := j + 1)) ?_
    refine zlv xas ?_
    refine zln <| zlq ⟨j, j + 1, rfl, (by omega), (by omega), ?_, rfl, hS⟩
    ·
     rw [entr_next t (leav t t.nb.toNat) j0, ← hcc]; (repeat' split) <;> omega
   refine zsk <| ztn <| zsq ?_
   refine zdst [0] [0] 1000 mx_ hS ?_; clear hS; intro w hS
   refine zdv 0 (fun _ => (xfb 4 fd_175_4)) ?_
   refine zdla 1 (fun w hS => (xlb 0 pl_27 hS)) ?_
   refine zdv 2 (fun _ => (xix (kk := 0) sl_27 hT.C.row.slh)) ?_
   refine zdla 3 (fun w hS => (xlr (u := (vv 0)) pl_22 (hT.C.row.below hS.below))) ?_
   refine zdv 4 (fun _ => xmv) ?_
   have hcr := entr_rng t (leav t t.nb.toNat) j.toNat; rw [← hcc] at hcr
   have hm1 := mul_abs (hp.cell (i := 0) (j := j + 1) (by omega) (by omega) (by omega) (by omega)) (hp.cell (i := (leav t t.nb.toNat) + 1) (j := c + 1) (by omega) (by omega) (by omega) (by omega)); have hm2 := mul_abs (hp.cell (i := 0) (j := c + 1) (by omega) (by omega) (by omega) (by omega)) (hp.cell (i := (leav t t.nb.toNat) + 1) (j := j + 1) (by omega) (by omega) (by omega) (by omega))
   refine zdv 5 (fun _ => (xadd (r := j + 1))) ?_
   refine zdv 6 (fun _ => (xix (kk := j + 1) sl_22 (hT.C.p 0 (by omega) (by omega)).slh)) ?_
   refine zdla 7 (fun w hS => (xlr (u := .int .i64 ((t.C 0) (j + 1))) pl_3 ((hT.C.p 0 (by omega) (by omega)).below hS.below))) ?_
   refine zdv 8 (fun _ => (xfb 4 fd_175_4)) ?_
   refine zdla 9 (fun w hS => (xlb 0 pl_27 hS)) ?_
   refine zdv 10 (fun _ => xmv) ?_
   refine zdv 11 (fun _ => (xadd (r := (leav t t.nb.toNat) + 1))) ?_
   refine zdv 12 (fun _ => (xix (kk := (leav t t.nb.toNat) + 1) sl_27 hT.C.row.slh)) ?_
   refine zdla 13 (fun w hS => (xlr (u := (vv ((leav t t.nb.toNat) + 1))) pl_22 (hT.C.row.below hS.below))) ?_
   refine zdv 14 (fun _ => xmv) ?_
   refine zdv 15 (fun _ => (xadd (r := c + 1))) ?_
   refine zdv 16 (fun _ => (xix (kk := c + 1) sl_22 (hT.C.p ((leav t t.nb.toNat) + 1) (by omega) (by omega)).slh)) ?_
   refine zdla 17 (fun w hS => (xlr (u := .int .i64 ((t.C ((leav t t.nb.toNat) + 1)) (c + 1))) pl_3 ((hT.C.p ((leav t t.nb.toNat) + 1) (by omega) (by omega)).below hS.below))) ?_
   refine zdv 18 (fun _ => (xmul (r := (((t.C 0) (j + 1)) * ((t.C ((leav t t.nb.toNat) + 1)) (c + 1)))) (e := rfl))) ?_
   refine zdv 19 (fun _ => (xfb 4 fd_175_4)) ?_
   refine zdla 20 (fun w hS => (xlb 0 pl_27 hS)) ?_
   refine zdv 21 (fun _ => (xix (kk := 0) sl_27 hT.C.row.slh)) ?_
   refine zdla 22 (fun w hS => (xlr (u := (vv 0)) pl_22 (hT.C.row.below hS.below))) ?_
   refine zdv 23 (fun _ => xmv) ?_
   refine zdv 24 (fun _ => (xadd (r := c + 1))) ?_
   refine zdv 25 (fun _ => (xix (kk := c + 1) sl_22 (hT.C.p 0 (by omega) (by omega)).slh)) ?_
   refine zdla 26 (fun w hS => (xlr (u := .int .i64 ((t.C 0) (c + 1))) pl_3 ((hT.C.p 0 (by omega) (by omega)).below hS.below))) ?_
   refine zdv 27 (fun _ => xmv) ?_
   refine zdv 28 (fun _ => (xmul (r := (((t.C 0) (c + 1)) * ((t.C ((leav t t.nb.toNat) + 1)) (j + 1)))) (e := rfl))) ?_
   refine zdv 29 (fun _ => xas) ?_
   refine zdv 30 (fun _ => xas) ?_
   refine zdd <| ztn <| zsq ?_
   refine zdst [0] [0] 1000 mx_ hS ?_; clear hS; intro w hS
   refine zdv 0 (fun _ => xmv) ?_
   have hne : t.F j ≠ t.F c := fun hh => by have := hp.injF (i := j) (j := c) (by omega) (by omega) (by omega) (by omega) (by omega) hh; omega
   refine zdv 1 (fun _ => xmv) ?_
   refine zdv 2 (fun _ => xlss) ?_
   refine zdv 3 (fun _ => xmv) ?_
   refine zdb 82 ?_ ?_ <;> intro hc
   ·
    refine zdof 4 ?_
    refine zdof 5 ?_
    refine zdof 6 ?_
    refine zdof 7 ?_
    refine zdof 8 ?_
    refine zdof 9 ?_
    refine zdof 10 ?_
    refine zdof 11 ?_
    refine zdof 12 ?_
    refine zdof 13 ?_
    refine zdof 14 ?_
    refine zdof 15 ?_
    refine zdof 16 ?_
    refine zdof 17 ?_
    refine zdof 18 ?_
    refine zdof 19 ?_
    refine zdv 20 (fun _ => xpt) ?_
    refine zdd <| ztn <| zct <| zrg ?_
    refine zs2 ?_
    refine zln <| zbn <| ztn <| zrg ?_
    refine zlv xmv ?_
    refine zlv (xadd (r := j + 1)) ?_
    refine zlv xas ?_
    refine zln <| zlq ⟨j, j + 1, rfl, (by omega), (by omega), ?_, rfl, hS⟩
    ·
     rw [entr_next t (leav t t.nb.toNat) j0, ← hcc]; (repeat' split) <;> omega
   refine zdv 4 (fun _ => xmv) ?_
   refine zdv 5 (fun _ => xmv) ?_
   refine zdv 6 (fun _ => xeql) ?_
   refine zdv 7 (fun _ => xmv) ?_
   refine zdb 86 ?_ ?_ <;> intro hc
   ·
    refine zdv 8 (fun _ => (xfb 3 fd_175_3)) ?_
    refine zdla 9 (fun w hS => (xlb 0 pl_22 hS)) ?_
    refine zdv 10 (fun _ => xmv) ?_
    refine zdv 11 (fun _ => (xix (kk := j) sl_22 hT.F.slh)) ?_
    refine zdla 12 (fun w hS => (xlr (u := .int .i64 (t.F j)) pl_3 (hT.F.below hS.below))) ?_
    refine zdv 13 (fun _ => (xfb 3 fd_175_3)) ?_
    refine zdla 14 (fun w hS => (xlb 0 pl_22 hS)) ?_
    refine zdv 15 (fun _ => xmv) ?_
    refine zdv 16 (fun _ => (xix (kk := c) sl_22 hT.F.slh)) ?_
    refine zdla 17 (fun w hS => (xlr (u := .int .i64 (t.F c)) pl_3 (hT.F.below hS.below))) ?_
    refine zdv 18 (fun _ => xlss) ?_
    refine zdv 19 (fun _ => xpt) ?_
    refine zdv 20 (fun _ => xpf) ?_
    refine zdd <| ztn ?_
    refine zcif ?_ ?_ <;> intro hc
    ·
     refine zrg ?_
     refine zs2 ?_
     refine zln <| zbn <| ztn <| zrg ?_
     refine zlv xmv ?_
     refine zlv (xadd (r := j + 1)) ?_
     refine zlv xas ?_
     refine zln <| zlq ⟨j, j + 1, rfl, (by omega), (by omega), ?_, rfl, hS⟩
     ·
      rw [entr_next t (leav t t.nb.toNat) j0, ← hcc]; (repeat' split) <;> omega
    refine zsk <| zbn <| ztn <| zrg ?_
    refine zlv xmv ?_
    refine zlv (xadd (r := j + 1)) ?_
    refine zlv xas ?_
    refine zln <| zlq ⟨c, j + 1, rfl, (by omega), (by omega), ?_, rfl, hS⟩
    ·
     rw [entr_next t (leav t t.nb.toNat) j0, ← hcc]; (repeat' split) <;> omega
   refine zdof 8 ?_
   refine zdof 9 ?_
   refine zdof 10 ?_
   refine zdof 11 ?_
   refine zdof 12 ?_
   refine zdof 13 ?_
   refine zdof 14 ?_
   refine zdof 15 ?_
   refine zdof 16 ?_
   refine zdof 17 ?_
   refine zdof 18 ?_
   refine zdv 19 (fun _ => xpf) ?_
   refine zdv 20 (fun _ => xpf) ?_
   refine zdd <| ztn <| zcf <| zsk <| zbn <| ztn <| zrg ?_
   refine zlv xmv ?_
   refine zlv (xadd (r := j + 1)) ?_
   refine zlv xas ?_
   refine zln <| zlq ⟨c, j + 1, rfl, (by omega), (by omega), ?_, rfl, hS⟩
   ·
    rw [entr_next t (leav t t.nb.toNat) j0, ← hcc]; (repeat' split) <;> omega
  refine zxt <| ztx <| ztx <| zbh <| ztn <| zsq <| zsr ?_
  refine zs2 ?_
  refine zlt ?_
  refine zcif ?_ ?_ <;> intro hc
  ·
   refine zsr ?_
   refine zs4 ?_
   refine zlt <| zrt <| ztr <| zf4 ⟨_, rfl, ?_⟩
   obtain rfl : j = t.nf := by omega
   exact ⟨_, _, _, _, rfl, .inr (.inr (.inl ⟨hp, (fun j j0 j1 => by have := hcq (j - 1) (by omega) (by omega); rw [show j - 1 + 1 = j by omega] at this; omega), by omega, by omega, rfl, rfl, rfl, rfl⟩)), hS.nl⟩
  refine zsk <| ztn <| zsr ?_
  refine zs6 ?_
  refine zlt <| zrt <| zf4 ⟨_, rfl, ?_⟩
  obtain rfl : j = t.nf := by omega
  exact ⟨_, _, _, _, rfl, .inr (.inr (.inr ⟨hp, (fun j j0 j1 => by have := hcq (j - 1) (by omega) (by omega); rw [show j - 1 + 1 = j by omega] at this; omega), by omega, by omega, rfl, hcc, rfl, rfl⟩)), hS.nl⟩

set_option maxRecDepth 20000 in
theorem c_cell {vB vF vC : Value} {vv : Int → Value} {t : Tb} {i j r s : Int} (w0 : World) (hT : TAt w0 vB vF vC vv t) (hp : TPrp t) (i0 : 0 ≤ i) (i1 : i ≤ t.nb) (j0 : 0 ≤ j) (j1 : j ≤ t.nf) (r0 : 0 ≤ r) (r1 : r ≤ t.nb) (s0 : 0 ≤ s) (s1 : s ≤ t.nf) :
    Calls Tryz.prog 178 [.agg #[.int .i64 t.vars, .int .i64 t.den, vB, vF, vC], .int .i64 i, .int .i64 j, .int .i64 r, .int .i64 s].toArray w0 fun e w => ∃ v, e = .returned v ∧ ∃ (n : Int) (ok : Value), v = .tuple #[.int .i64 n, ok] ∧ n = pcell t r s i j ∧ ok = B (divs t r s i j) ∧ Sat w0 w [] := by
  have hn := hT.F.slh.n0; have hn1 := hT.F.slh.n1; have hb := hT.B.slh.n0; have hb1 := hT.B.slh.n1; have hc0 := hT.C.row.slh.n0; have hc1 := hT.C.row.slh.n1
  have b1 := hp.n1; have b2 := hp.n2; have b3 := hp.m2; have b4 := hp.v; have b5 := hp.d1; have b6 := hp.d2; have b7 := hp.c
  have hc1x := hp.cell (i := r) (j := s) (by omega) (by omega) (by omega) (by omega); have hc2x := hp.cell (i := i) (j := j) (by omega) (by omega) (by omega) (by omega); have hc3x := hp.cell (i := i) (j := s) (by omega) (by omega) (by omega) (by omega); have hc4x := hp.cell (i := r) (j := j) (by omega) (by omega) (by omega) (by omega)
  have hm1 := mul_abs hc1x hc2x; have hm2 := mul_abs hc3x hc4x; have hli := hp.len (i := i) (by omega) (by omega); have hlr := hp.len (i := r) (by omega) (by omega)
  have hqd := tdiv_abs (a := t.C r s * t.C i j - t.C i s * t.C r j) (d := t.den) (A := 2305843009213693952) (by omega) (by omega)
  refine zenG Tryz.func178 Tryz.ntmps178 fun w hS => ?_
  refine zsr ?_
  refine zla (xbx (cs := [_, _, _, _, _]) hS) ?_; rintro _ w ⟨g1, rfl, hS⟩
  replace hS := hS.n1
  refine zs2 ?_
  refine zlz ?_
  refine zlv (xfb 4 fd_175_4) ?_
  refine zlv (xlb 0 pl_27 hS) ?_
  refine zlv xmv ?_
  refine zlv (xix (kk := r) sl_27 hT.C.row.slh) ?_
  refine zlv (xlr (u := (vv r)) pl_22 (hT.C.row.below hS.below)) ?_
  refine zlv xmv ?_
  refine zlv (xix (kk := s) sl_22 (hT.C.p r (by omega) (by omega)).slh) ?_
  refine zlv (xlr (u := .int .i64 ((t.C r) s)) pl_3 ((hT.C.p r (by omega) (by omega)).below hS.below)) ?_
  refine zlv xas ?_
  refine zlt <| zsq <| zbk <| zsr ?_
  refine zs4 ?_
  refine zlb 26 ?_ ?_ <;> intro hc
  ·
   refine zs5 ?_
   refine zlt ?_
   refine zcif ?_ ?_ <;> intro hc
   ·
    refine zsr ?_
    refine zlv (xfb 1 fd_175_1) ?_
    refine zlv (xlb 0 pl_3 hS) ?_
    refine zs2 ?_
    refine zlt <| zrt <| zbr <| ztr <| zf2 ⟨_, rfl, ?_⟩
    skip
    exact ⟨(_), _, rfl, by unfold pcell; first | exact (if_pos ⟨by omega, by omega⟩).symm | (rw [if_neg (by omega)]; exact (if_pos (by omega)).symm) | (rw [if_neg (by omega), if_neg (by omega)]; exact (if_pos (by omega)).symm), true_B (fun h1 h2 => by omega), hS.nl⟩
   refine zsr ?_
   refine zs2 ?_
   refine zlv (xkt xeql) ?_
   refine zlv xas ?_
   refine zlt <| zct <| zsr ?_
   refine zlv (xfb 4 fd_175_4) ?_
   refine zlv (xlb 0 pl_27 hS) ?_
   refine zlv xmv ?_
   refine zlv (xix (kk := r) sl_27 hT.C.row.slh) ?_
   refine zlv (xlr (u := (vv r)) pl_22 (hT.C.row.below hS.below)) ?_
   refine zlv xmv ?_
   refine zlv (xix (kk := j) sl_22 (hT.C.p r (by omega) (by omega)).slh) ?_
   refine zlv (xlr (u := .int .i64 ((t.C r) j)) pl_3 ((hT.C.p r (by omega) (by omega)).below hS.below)) ?_
   refine zlv (xneg (r := -(((t.C r) j)))) ?_
   refine zs2 ?_
   refine zlt <| zrt <| zbr <| ztr <| zf2 ⟨_, rfl, ?_⟩
   obtain rfl : i = r := by omega
   skip
   exact ⟨(_), _, rfl, by unfold pcell; first | exact (if_pos ⟨by omega, by omega⟩).symm | (rw [if_neg (by omega)]; exact (if_pos (by omega)).symm) | (rw [if_neg (by omega), if_neg (by omega)]; exact (if_pos (by omega)).symm), true_B (fun h1 h2 => by omega), hS.nl⟩
  iterate 3 refine zlo ?_
  refine zs2 ?_
  refine zlt <| zcf <| zsr ?_
  refine zs4 ?_
  refine zlt ?_
  refine zcif ?_ ?_ <;> intro hc
  ·
   exfalso; omega
  refine zsr ?_
  refine zs4 ?_
  refine zlt ?_
  refine zcif ?_ ?_ <;> intro hc
  ·
   refine zsr ?_
   refine zlv (xfb 4 fd_175_4) ?_
   refine zlv (xlb 0 pl_27 hS) ?_
   refine zlv xmv ?_
   refine zlv (xix (kk := i) sl_27 hT.C.row.slh) ?_
   refine zlv (xlr (u := (vv i)) pl_22 (hT.C.row.below hS.below)) ?_
   refine zlv xmv ?_
   refine zlv (xix (kk := s) sl_22 (hT.C.p i (by omega) (by omega)).slh) ?_
   refine zlv (xlr (u := .int .i64 ((t.C i) s)) pl_3 ((hT.C.p i (by omega) (by omega)).below hS.below)) ?_
   refine zs2 ?_
   refine zlt <| zrt <| zbr <| ztr <| zf2 ⟨_, rfl, ?_⟩
   obtain rfl : j = s := by omega
   skip
   exact ⟨(_), _, rfl, by unfold pcell; first | exact (if_pos ⟨by omega, by omega⟩).symm | (rw [if_neg (by omega)]; exact (if_pos (by omega)).symm) | (rw [if_neg (by omega), if_neg (by omega)]; exact (if_pos (by omega)).symm), true_B (fun h1 h2 => by omega), hS.nl⟩
  refine zsk <| zbn <| ztn <| zsq ?_
  refine zdst [0] [0] 1000 mx_ hS ?_; clear hS; intro w hS
  refine zdv 0 (fun _ => xmv) ?_
  refine zdv 1 (fun _ => (xfb 4 fd_175_4)) ?_
  refine zdla 2 (fun w hS => (xlb 0 pl_27 hS)) ?_
  refine zdv 3 (fun _ => xmv) ?_
  refine zdv 4 (fun _ => (xix (kk := i) sl_27 hT.C.row.slh)) ?_
  refine zdla 5 (fun w hS => (xlr (u := (vv i)) pl_22 (hT.C.row.below hS.below))) ?_
  refine zdv 6 (fun _ => xmv) ?_
  refine zdv 7 (fun _ => (xix (kk := j) sl_22 (hT.C.p i (by omega) (by omega)).slh)) ?_
  refine zdla 8 (fun w hS => (xlr (u := .int .i64 ((t.C i) j)) pl_3 ((hT.C.p i (by omega) (by omega)).below hS.below))) ?_
  refine zdv 9 (fun _ => (xmul (r := (((t.C r) s) * ((t.C i) j))) (e := rfl))) ?_
  refine zdv 10 (fun _ => (xfb 4 fd_175_4)) ?_
  refine zdla 11 (fun w hS => (xlb 0 pl_27 hS)) ?_
  refine zdv 12 (fun _ => xmv) ?_
  refine zdv 13 (fun _ => (xix (kk := i) sl_27 hT.C.row.slh)) ?_
  refine zdla 14 (fun w hS => (xlr (u := (vv i)) pl_22 (hT.C.row.below hS.below))) ?_
  refine zdv 15 (fun _ => xmv) ?_
  refine zdv 16 (fun _ => (xix (kk := s) sl_22 (hT.C.p i (by omega) (by omega)).slh)) ?_
  refine zdla 17 (fun w hS => (xlr (u := .int .i64 ((t.C i) s)) pl_3 ((hT.C.p i (by omega) (by omega)).below hS.below))) ?_
  refine zdv 18 (fun _ => (xfb 4 fd_175_4)) ?_
  refine zdla 19 (fun w hS => (xlb 0 pl_27 hS)) ?_
  refine zdv 20 (fun _ => xmv) ?_
  refine zdv 21 (fun _ => (xix (kk := r) sl_27 hT.C.row.slh)) ?_
  refine zdla 22 (fun w hS => (xlr (u := (vv r)) pl_22 (hT.C.row.below hS.below))) ?_
  refine zdv 23 (fun _ => xmv) ?_
  refine zdv 24 (fun _ => (xix (kk := j) sl_22 (hT.C.p r (by omega) (by omega)).slh)) ?_
  refine zdla 25 (fun w hS => (xlr (u := .int .i64 ((t.C r) j)) pl_3 ((hT.C.p r (by omega) (by omega)).below hS.below))) ?_
  refine zdv 26 (fun _ => (xmul (r := (((t.C i) s) * ((t.C r) j))) (e := rfl))) ?_
  refine zdv 27 (fun _ => (xsub (r := (((t.C r) s) * ((t.C i) j)) - (((t.C i) s) * ((t.C r) j))))) ?_
  refine zdv 28 (fun _ => xas) ?_
  refine zdd <| ztn <| zsq ?_
  refine zdst [0] [0] 1000 mx_ hS ?_; clear hS; intro w hS
  refine zdv 0 (fun _ => xmv) ?_
  refine zdv 1 (fun _ => (xfb 1 fd_175_1)) ?_
  refine zdla 2 (fun w hS => (xlb 0 pl_3 hS)) ?_
  refine zdv 3 (fun _ => (xquo (r := (Int.tdiv ((((t.C r) s) * ((t.C i) j)) - (((t.C i) s) * ((t.C r) j))) t.den)))) ?_
  refine zdv 4 (fun _ => xmv) ?_
  refine zdv 5 (fun _ => (xfb 1 fd_175_1)) ?_
  refine zdla 6 (fun w hS => (xlb 0 pl_3 hS)) ?_
  refine zdv 7 (fun _ => (xrem (r := (Int.tmod ((((t.C r) s) * ((t.C i) j)) - (((t.C i) s) * ((t.C r) j))) t.den)))) ?_
  refine zdv 8 (fun _ => xeql) ?_
  refine zdv 9 (fun _ => xas) ?_
  refine zdv 10 (fun _ => xas) ?_
  refine zdd <| ztn <| zrt <| zf2 ⟨_, rfl, ?_⟩
  exact ⟨_, _, rfl, by unfold pcell; rw [if_neg (by omega), if_neg (by omega), if_neg (by omega)], B_congr ⟨fun h _ _ => h, fun h => h (by omega) (by omega)⟩, hS.nl⟩

theorem piv_prp {t : Tb} {row col : Int} (ha : pargs t row col) (hb : ∀ a b, 0 ≤ a → a ≤ t.nb → 0 ≤ b → b ≤ t.nf → -1073741824 ≤ pcell t (row + 1) (col + 1) a b ∧ pcell t (row + 1) (col + 1) a b ≤ 1073741824) : TPrp (piv t row col) := by
  obtain ⟨hp, r0, r1, c0, c1, hne⟩ := ha
  have hcl := hp.cell (i := row + 1) (j := col + 1) (by omega) (by omega) (by omega) (by omega)
  have hs := sg_cases (t.C (row + 1) (col + 1))
  have hden : 1 ≤ (piv t row col).den ∧ (piv t row col).den ≤ 1073741824 := by
    rw [piv_den]; unfold sg; split <;> omega
  have hcc := hp.c
  refine ⟨hp.n1, hp.n2, hp.m2, hp.v, hden.1, hden.2, hp.c, ?_, fun i i0 i1 => ⟨(hp.rows i i0 i1).1, fun j j0 j1 => ?_⟩⟩
  · have tr : ∀ i, 0 ≤ i → i < t.nf + t.nb → ∃ k, 0 ≤ k ∧ k < t.nf + t.nb ∧ cat t.nf (upd t.F col (t.B row)) (upd t.B row (t.F col)) i = cat t.nf t.F t.B k ∧ (i = col → k = t.nf + row) ∧ (i = t.nf + row → k = col) ∧ (i ≠ col → i ≠ t.nf + row → k = i) := fun i i0 i1 => by
      by_cases e1 : i = col
      · refine ⟨t.nf + row, by omega, by omega, ?_, fun _ => rfl, fun h => by omega, fun h => absurd e1 h⟩
        unfold cat; rw [if_pos (by omega), if_neg (by omega), e1, upd_self]; congr 1; omega
      · by_cases e2 : i = t.nf + row
        · refine ⟨col, by omega, by omega, ?_, fun h => by omega, fun _ => rfl, fun _ h => absurd e2 h⟩
          unfold cat; rw [if_neg (by omega), if_pos (by omega), e2, show t.nf + row - t.nf = row by omega, upd_self]
        · refine ⟨i, by omega, by omega, ?_, fun h => by omega, fun h => by omega, fun _ _ => rfl⟩
          unfold cat; split
          · rw [upd_ne _ _ e1]
          · rw [upd_ne _ _ (by omega)]
    refine ⟨fun i i0 i1 => ?_, fun i j i0 i1 j0 j1 e => ?_⟩
    · obtain ⟨k, k0, k1, e, _⟩ := tr i i0 i1
      have := hp.perm.1 k k0 k1
      have h3 : 0 ≤ cat t.nf (upd t.F col (t.B row)) (upd t.B row (t.F col)) i ∧ cat t.nf (upd t.F col (t.B row)) (upd t.B row (t.F col)) i < t.nf + t.nb := by rw [e]; exact this
      exact h3
    · obtain ⟨k, k0, k1, e1, x1, x2, x3⟩ := tr i i0 i1
      obtain ⟨q, q0, q1, e2, y1, y2, y3⟩ := tr j j0 j1
      have := hp.perm.2 k q k0 k1 q0 q1 (by rw [← e1, ← e2]; exact e)
      by_cases a1 : i = col <;> by_cases a2 : i = t.nf + row <;> by_cases b1 : j = col <;> by_cases b2 : j = t.nf + row <;> simp only [a1, a2, b1, b2, true_implies, false_implies, not_true, not_false_eq_true, ne_eq] at x1 x2 x3 y1 y2 y3 <;> omega
  · have h1 : t.ln i = t.nf + 1 := (hp.rows i i0 i1).1
    have j2 : j < t.ln i := j1
    have i2 : i < t.nc := i1
    have := hb i j i0 (by omega) j0 (by omega)
    rw [piv_C]
    rcases hs with h | h <;> rw [h] <;> omega

set_option maxHeartbeats 4000000 in
set_option maxRecDepth 20000 in
theorem c_rpivot {vB vF vC : Value} {vv : Int → Value} {t : Tb} {row col : Int} (w0 : World) (hT : TAt w0 vB vF vC vv t) (hrow0 : -9223372036854775808 ≤ row ∧ row ≤ 9223372036854775807) (hcol0 : -9223372036854775808 ≤ col ∧ col ≤ 9223372036854775807) :
    Calls Tryz.prog 160 [.agg #[.int .i64 t.vars, .int .i64 t.den, vB, vF, vC], .int .i64 row, .int .i64 col].toArray w0 fun e w => ∃ v, e = .returned v ∧ ∃ vB vF vC vv t' e, v = .tuple #[.agg #[.int .i64 t'.vars, .int .i64 t'.den, vB, vF, vC], .int .i64 e] ∧ PivR t row col t' e ∧ Slh vB t'.nb ∧ Slh vF t'.nf ∧ Slh vC t'.nc ∧ Sat w0 w [.own vB 1 3 t'.nb (ints t'.B), .own vF 1 3 t'.nf (ints t'.F), .own vC 1 22 t'.nc vv, .sem (Frame.rows 3 t'.nc vv t'.ln t'.C)] := by
  have hn := hT.F.slh.n0; have hn1 := hT.F.slh.n1; have hb := hT.B.slh.n0; have hb1 := hT.B.slh.n1; have hc0 := hT.C.row.slh.n0; have hc1 := hT.C.row.slh.n1
  refine zenG Tryz.func160 Tryz.ntmps160 fun w hS => ?_
  refine zsr ?_
  refine zla (xbx (cs := [_, _, _, _, _]) hS) ?_; rintro _ w ⟨g1, rfl, hS⟩
  replace hS := hS.n1
  refine zla (xal (cs := [_, _, _, _, _]) el_175 hS) ?_; rintro _ w ⟨g2, rfl, hS⟩
  replace hS := hS.n2
  refine zlv xas ?_
  refine zlt <| zsq <| zsr ?_
  refine zlv (xls 0 st_175 hS) ?_
  refine zlc (xc0 cl_176) (c_rproper (t := t) w (hT.below hS.below)) ?_; rintro _ w ⟨rfl, hS'⟩
  replace hS := hS.cmp hS'; clear hS'
  refine zs2 ?_
  refine zlb 21 ?_ ?_ <;> intro hc
  ·
   iterate 2 refine zlo ?_
   refine zs2 ?_
   iterate 5 refine zlo ?_
   refine zs2 ?_
   iterate 2 refine zlo ?_
   refine zs2 ?_
   iterate 5 refine zlo ?_
   refine zs2 ?_
   iterate 11 refine zlo ?_
   refine zlv xpt ?_
   refine zlt <| zct <| zsr ?_
   refine zlv (xany (v := .agg #[.int .i64 0, .int .i64 0, .slice none 0 0, .slice none 0 0, .slice none 0 0])) ?_
   refine zle (xsw 1 st_175 hS) ?_; clear hS; rintro w hS
   replace hS := hS.n2
   refine zlv xas ?_
   refine zlt <| zrt <| ztr <| zfct 1 st_175 hS ⟨_, rfl, ?_⟩
   exact ⟨_, _, _, fun _ => undef, Tb.zero, 1, rfl, .inl ⟨by first | exact fun hh => absurd hh.1 ‹_› | (rintro ⟨_, p1, p2, p3, p4, p5⟩; omega), rfl, rfl⟩, slh_nil, slh_nil, slh_nil, ((((hS.sub (.cons _ (.cons _ .slnil))).addnil 1 3 (ints Tb.zero.B)).addnil 1 3 (ints Tb.zero.F)).addnil 1 22 (fun _ => undef)).addrows 3 (fun _ => undef) Tb.zero.ln Tb.zero.C⟩
  refine zlv xmv ?_
  have hp : TPrp t := by first | assumption | exact Classical.not_not.1 ‹¬ ¬ (TPrp t)›
  have b1 := hp.n1
  have b2 := hp.n2
  have b3 := hp.m2
  have b4 := hp.v
  have b5 := hp.d1
  have b6 := hp.d2
  have b7 := hp.c
  have hl0 := hp.len (i := 0) (by omega) (by omega)
  refine zs3 ?_
  refine zlb 25 ?_ ?_ <;> intro hc
  ·
   iterate 5 refine zlo ?_
   refine zs2 ?_
   iterate 2 refine zlo ?_
   refine zs2 ?_
   iterate 5 refine zlo ?_
   refine zs2 ?_
   iterate 11 refine zlo ?_
   refine zlv xpt ?_
   refine zlt <| zct <| zsr ?_
   refine zlv (xany (v := .agg #[.int .i64 0, .int .i64 0, .slice none 0 0, .slice none 0 0, .slice none 0 0])) ?_
   refine zle (xsw 1 st_175 hS) ?_; clear hS; rintro w hS
   replace hS := hS.n2
   refine zlv xas ?_
   refine zlt <| zrt <| ztr <| zfct 1 st_175 hS ⟨_, rfl, ?_⟩
   exact ⟨_, _, _, fun _ => undef, Tb.zero, 1, rfl, .inl ⟨by first | exact fun hh => absurd hh.1 ‹_› | (rintro ⟨_, p1, p2, p3, p4, p5⟩; omega), rfl, rfl⟩, slh_nil, slh_nil, slh_nil, ((((hS.sub (.cons _ (.cons _ .slnil))).addnil 1 3 (ints Tb.zero.B)).addnil 1 3 (ints Tb.zero.F)).addnil 1 22 (fun _ => undef)).addrows 3 (fun _ => undef) Tb.zero.ln Tb.zero.C⟩
  refine zlv xmv ?_
  refine zlv (xfb 2 fd_175_2) ?_
  refine zlv (xlb 0 pl_22 hS) ?_
  refine zlv (xln sl_22 hT.B.slh) ?_
  refine zs3 ?_
  refine zlb 32 ?_ ?_ <;> intro hc
  ·
   iterate 2 refine zlo ?_
   refine zs2 ?_
   iterate 5 refine zlo ?_
   refine zs2 ?_
   iterate 11 refine zlo ?_
   refine zlv xpt ?_
   refine zlt <| zct <| zsr ?_
   refine zlv (xany (v := .agg #[.int .i64 0, .int .i64 0, .slice none 0 0, .slice none 0 0, .slice none 0 0])) ?_
   refine zle (xsw 1 st_175 hS) ?_; clear hS; rintro w hS
   replace hS := hS.n2
   refine zlv xas ?_
   refine zlt <| zrt <| ztr <| zfct 1 st_175 hS ⟨_, rfl, ?_⟩
   exact ⟨_, _, _, fun _ => undef, Tb.zero, 1, rfl, .inl ⟨by first | exact fun hh => absurd hh.1 ‹_› | (rintro ⟨_, p1, p2, p3, p4, p5⟩; omega), rfl, rfl⟩, slh_nil, slh_nil, slh_nil, ((((hS.sub (.cons _ (.cons _ .slnil))).addnil 1 3 (ints Tb.zero.B)).addnil 1 3 (ints Tb.zero.F)).addnil 1 22 (fun _ => undef)).addrows 3 (fun _ => undef) Tb.zero.ln Tb.zero.C⟩
  refine zs4 ?_
  refine zlb 36 ?_ ?_ <;> intro hc
  ·
   iterate 5 refine zlo ?_
   refine zs2 ?_
   iterate 11 refine zlo ?_
   refine zlv xpt ?_
   refine zlt <| zct <| zsr ?_
   refine zlv (xany (v := .agg #[.int .i64 0, .int .i64 0, .slice none 0 0, .slice none 0 0, .slice none 0 0])) ?_
   refine zle (xsw 1 st_175 hS) ?_; clear hS; rintro w hS
   replace hS := hS.n2
   refine zlv xas ?_
   refine zlt <| zrt <| ztr <| zfct 1 st_175 hS ⟨_, rfl, ?_⟩
   exact ⟨_, _, _, fun _ => undef, Tb.zero, 1, rfl, .inl ⟨by first | exact fun hh => absurd hh.1 ‹_› | (rintro ⟨_, p1, p2, p3, p4, p5⟩; omega), rfl, rfl⟩, slh_nil, slh_nil, slh_nil, ((((hS.sub (.cons _ (.cons _ .slnil))).addnil 1 3 (ints Tb.zero.B)).addnil 1 3 (ints Tb.zero.F)).addnil 1 22 (fun _ => undef)).addrows 3 (fun _ => undef) Tb.zero.ln Tb.zero.C⟩
  refine zlv xmv ?_
  refine zlv (xfb 3 fd_175_3) ?_
  refine zlv (xlb 0 pl_22 hS) ?_
  refine zlv (xln sl_22 hT.F.slh) ?_
  refine zs3 ?_
  refine zlb 43 ?_ ?_ <;> intro hc
  ·
   iterate 11 refine zlo ?_
   refine zlv xpt ?_
   refine zlt <| zct <| zsr ?_
   refine zlv (xany (v := .agg #[.int .i64 0, .int .i64 0, .slice none 0 0, .slice none 0 0, .slice none 0 0])) ?_
   refine zle (xsw 1 st_175 hS) ?_; clear hS; rintro w hS
   replace hS := hS.n2
   refine zlv xas ?_
   refine zlt <| zrt <| ztr <| zfct 1 st_175 hS ⟨_, rfl, ?_⟩
   exact ⟨_, _, _, fun _ => undef, Tb.zero, 1, rfl, .inl ⟨by first | exact fun hh => absurd hh.1 ‹_› | (rintro ⟨_, p1, p2, p3, p4, p5⟩; omega), rfl, rfl⟩, slh_nil, slh_nil, slh_nil, ((((hS.sub (.cons _ (.cons _ .slnil))).addnil 1 3 (ints Tb.zero.B)).addnil 1 3 (ints Tb.zero.F)).addnil 1 22 (fun _ => undef)).addrows 3 (fun _ => undef) Tb.zero.ln Tb.zero.C⟩
  refine zlv (xfb 4 fd_175_4) ?_
  refine zlv (xlb 0 pl_27 hS) ?_
  refine zlv xmv ?_
  refine zlv (xadd (r := row + 1)) ?_
  refine zlv (xix (kk := row + 1) sl_27 hT.C.row.slh) ?_
  refine zlv (xlr (u := (vv (row + 1))) pl_22 (hT.C.row.below hS.below)) ?_
  refine zlv xmv ?_
  have hlr := hp.len (i := row + 1) (by omega) (by omega)
  refine zlv (xadd (r := col + 1)) ?_
  refine zlv (xix (kk := col + 1) sl_22 (hT.C.p (row + 1) (by omega) (by omega)).slh) ?_
  refine zlv (xlr (u := .int .i64 ((t.C (row + 1)) (col + 1))) pl_3 ((hT.C.p (row + 1) (by omega) (by omega)).below hS.below)) ?_
  refine zs2 ?_
  refine zlt ?_
  refine zcif ?_ ?_ <;> intro hc
  ·
   refine zsr ?_
   refine zlv (xany (v := .agg #[.int .i64 0, .int .i64 0, .slice none 0 0, .slice none 0 0, .slice none 0 0])) ?_
   refine zle (xsw 1 st_175 hS) ?_; clear hS; rintro w hS
   replace hS := hS.n2
   refine zlv xas ?_
   refine zlt <| zrt <| ztr <| zfct 1 st_175 hS ⟨_, rfl, ?_⟩
   exact ⟨_, _, _, fun _ => undef, Tb.zero, 1, rfl, .inl ⟨by first | exact fun hh => absurd hh.1 ‹_› | (rintro ⟨_, p1, p2, p3, p4, p5⟩; omega), rfl, rfl⟩, slh_nil, slh_nil, slh_nil, ((((hS.sub (.cons _ (.cons _ .slnil))).addnil 1 3 (ints Tb.zero.B)).addnil 1 3 (ints Tb.zero.F)).addnil 1 22 (fun _ => undef)).addrows 3 (fun _ => undef) Tb.zero.ln Tb.zero.C⟩
  refine zsk <| ztn <| zsr ?_
  refine zlv xmv ?_
  have hnz : t.C (row + 1) (col + 1) ≠ 0 := by omega
  have hpb := hp.cell (i := row + 1) (j := col + 1) (by omega) (by omega) (by omega) (by omega)
  refine zlv (xadd (r := row + 1)) ?_
  refine zlv xmv ?_
  refine zlv (xadd (r := col + 1)) ?_
  refine zs2 ?_
  refine zlz ?_
  refine zlv xas ?_
  refine zlt <| zsq <| zsr ?_
  refine zlv (xfb 4 fd_175_4) ?_
  refine zlv (xlb 0 pl_27 hS) ?_
  refine zlv xmv ?_
  refine zlv (xix (kk := row + 1) sl_27 hT.C.row.slh) ?_
  refine zlv (xlr (u := (vv (row + 1))) pl_22 (hT.C.row.below hS.below)) ?_
  refine zlv xmv ?_
  refine zlv (xix (kk := col + 1) sl_22 (hT.C.p (row + 1) (by omega) (by omega)).slh) ?_
  refine zlv (xlr (u := .int .i64 ((t.C (row + 1)) (col + 1))) pl_3 ((hT.C.p (row + 1) (by omega) (by omega)).below hS.below)) ?_
  refine zlv xlss ?_
  refine zlt ?_
  refine zcif ?_ ?_ <;> intro hc
  ·
   refine zrg ?_
   refine zlv xas ?_
   refine zlt <| zsq <| ?_
   refine zgcut (fun M w => ∃ (g3 : Nat) (v1 : Value) (v2 : Value) (v3 : Value) (v4 : Value), (Slh v2 t.nb) ∧ (Slh v4 t.nf) ∧ M = [(0, .agg #[.int .i64 t.vars, .int .i64 t.den, vB, vF, vC]), (1, .int .i64 row), (2, .int .i64 col), (3, .pointer (some ⟨g1, 0, none⟩)), (6, .pointer (some ⟨g2, 0, none⟩)), (7, .int .i64 0), (18, .agg #[.int .i64 t.vars, .int .i64 t.den, vB, vF, vC]), (19, B (TPrp t)), (20, B (¬ (TPrp t))), (21, .bool false), (22, .int .i64 row), (23, B (row < 0)), (24, B (row < 0)), (25, .bool false), (26, .int .i64 row), (27, .pointer (some ⟨g1, 2, none⟩)), (28, vB), (29, .int .i64 t.nb), (30, B (t.nb ≤ row)), (31, B (t.nb ≤ row)), (32, .bool false), (33, .int .i64 col), (34, B (col < 0)), (35, B (col < 0)), (36, .bool false), (37, .int .i64 col), (38, .pointer (some ⟨g1, 3, none⟩)), (39, vF), (40, .int .i64 t.nf), (41, B (t.nf ≤ col)), (42, B (t.nf ≤ col)), (43, .bool false), (44, .pointer (some ⟨g1, 4, none⟩)), (45, vC), (46, .int .i64 row), (47, .int .i64 (row + 1)), (48, .pointer (some (cad vC (row + 1)))), (49, (vv (row + 1))), (50, .int .i64 col), (51, .int .i64 (col + 1)), (52, .pointer (some (cad (vv (row + 1)) (col + 1)))), (53, .int .i64 ((t.C (row + 1)) (col + 1))), (54, B (((t.C (row + 1)) (col + 1)) = 0)), (55, B (((t.C (row + 1)) (col + 1)) = 0)), (57, .int .i64 row), (58, .int .i64 (row + 1)), (59, .int .i64 col), (60, .int .i64 (col + 1)), (8, .int .i64 (row + 1)), (9, .int .i64 (col + 1)), (10, .int .i64 (-1)), (61, .pointer (some ⟨g1, 4, none⟩)), (62, vC), (63, .int .i64 (row + 1)), (64, .pointer (some (cad vC (row + 1)))), (65, (vv (row + 1))), (66, .int .i64 (col + 1)), (67, .pointer (some (cad (vv (row + 1)) (col + 1)))), (68, .int .i64 ((t.C (row + 1)) (col + 1))), (69, B (((t.C (row + 1)) (col + 1)) < 0)), (70, .pointer (some ⟨g1, 0, none⟩)), (71, .int .i64 t.vars), (72, .int .i64 (-1)), (73, .pointer (some ⟨g1, 4, none⟩)), (74, vC), (75, .int .i64 (row + 1)), (76, .pointer (some (cad vC (row + 1)))), (77, (vv (row + 1))), (78, .int .i64 (col + 1)), (79, .pointer (some (cad (vv (row + 1)) (col + 1)))), (80, .int .i64 ((t.C (row + 1)) (col + 1))), (81, .int .i64 (-(((t.C (row + 1)) (col + 1))))), (83, .pointer (some ⟨g1, 2, none⟩)), (84, vB), (87, .pointer (some ⟨g1, 3, none⟩)), (88, vF), (82, v1), (85, v2), (86, v3), (89, v4), (90, .agg #[.int .i64 t.vars, .int .i64 (-(((t.C (row + 1)) (col + 1)))), v2, v4, .slice none 0 0]), (11, .pointer (some ⟨g3, 0, none⟩))] ∧ Sat w0 w [.blk g1 [.int .i64 t.vars, .int .i64 t.den, vB, vF, vC], .blk g2 [.int .i64 0, .int .i64 0, .slice none 0 0, .slice none 0 0, .slice none 0 0], .own v2 1 3 t.nb (ints (cat 0 (fun _ => 0) t.B)), .own v4 1 3 t.nf (ints (cat 0 (fun _ => 0) t.F)), .blk g3 [.int .i64 t.vars, .int .i64 (-(((t.C (row + 1)) (col + 1)))), v2, v4, .slice none 0 0]]) ?_ ?_
   ·
    refine zdst [0, 1] [0, 1] 22 mx_ hS ?_; clear hS; intro w hS
    refine zdv 0 (fun _ => (xfb 0 fd_175_0)) ?_
    refine zdla 1 (fun w hS => (xlb 0 pl_3 hS)) ?_
    refine zdv 2 (fun _ => xmv) ?_
    refine zdv 3 (fun _ => (xfb 4 fd_175_4)) ?_
    refine zdla 4 (fun w hS => (xlb 0 pl_27 hS)) ?_
    refine zdv 5 (fun _ => xmv) ?_
    refine zdv 6 (fun _ => (xix (kk := row + 1) sl_27 hT.C.row.slh)) ?_
    refine zdla 7 (fun w hS => (xlr (u := (vv (row + 1))) pl_22 (hT.C.row.below hS.below))) ?_
    refine zdv 8 (fun _ => xmv) ?_
    refine zdv 9 (fun _ => (xix (kk := col + 1) sl_22 (hT.C.p (row + 1) (by omega) (by omega)).slh)) ?_
    refine zdla 10 (fun w hS => (xlr (u := .int .i64 ((t.C (row + 1)) (col + 1))) pl_3 ((hT.C.p (row + 1) (by omega) (by omega)).below hS.below))) ?_
    refine zdv 11 (fun _ => (xmul (r := -(((t.C (row + 1)) (col + 1)))))) ?_
    refine zdv 13 (fun _ => (xfb 2 fd_175_2)) ?_
    refine zdla 14 (fun w hS => (xlb 0 pl_22 hS)) ?_
    refine zdv 17 (fun _ => (xfb 3 fd_175_3)) ?_
    refine zdla 18 (fun w hS => (xlb 0 pl_22 hS)) ?_
    refine zdfk (r := [12, 16, 21]) ((zdn1 ?_ (zdn1 ?_ (zdn1 ?_ zdn0))))
    ·
     refine zka (xl0 (c := ints (fun _ => 0)) sl_22 hS) ?_; rintro v1 w ⟨hS, hv1⟩
     replace hS := hS.n3
     refine ⟨⟨fun _ => hS.pk [0, 1], hS.pk [0, 1]⟩, ?_⟩
     refine zdfk (r := [15, 16, 21]) ((zdn1 ?_ (zdn1 ?_ (zdn1 ?_ zdn0))))
     ·
      refine zka (xap 2 (r := t.nb) (f := ints (cat 0 (fun _ => 0) t.B)) sl_22 el_3 hS (hT.B.below hS.below) (by exact cat_ints1 _ _ _)) ?_; rintro v2 w ⟨hS, hv2⟩
      replace hS := hS.n3
      refine ⟨⟨fun _ => hS.pk [0, 1], hS.pk [0, 1]⟩, ?_⟩
      refine zdfk (r := [16, 21]) ((zdn1 ?_ (zdn1 ?_ zdn0)))
      ·
       refine zka (xl0 (c := ints (fun _ => 0)) sl_22 hS) ?_; rintro v3 w ⟨hS, hv3⟩
       replace hS := hS.n4
       refine ⟨⟨fun _ => hS.pk [0, 1], hS.pk [0, 1]⟩, ?_⟩
       refine zdfk (r := [19, 21]) ((zdn1 ?_ (zdn1 ?_ zdn0)))
       ·
        refine zka (xap 3 (r := t.nf) (f := ints (cat 0 (fun _ => 0) t.F)) sl_22 el_3 hS (hT.F.below hS.below) (by exact cat_ints1 _ _ _)) ?_; rintro v4 w ⟨hS, hv4⟩
        replace hS := hS.n4
        refine ⟨⟨fun _ => hS.pk [0, 1], hS.pk [0, 1]⟩, ?_⟩
        refine zdv 20 (fun _ => (xany (v := .agg #[.int .i64 t.vars, .int .i64 (-(((t.C (row + 1)) (col + 1)))), v2, v4, .slice none 0 0]) (hr := by obtain ⟨_, _, _, _, rfl, _⟩ := hv2; obtain ⟨_, _, _, _, rfl, _⟩ := hv4; kernel_rfl))) ?_
        refine zda 21 (xal (cs := [_, _, _, _, _]) el_175 hS) ?_; rintro _ w ⟨g3, rfl, hS⟩
        replace hS := hS.n5
        refine ⟨⟨fun _ => hS.pk [0, 1], hS.pk [0, 1]⟩, ?_⟩
        refine zde 22 (xsw 4 st_175 hS (hd := (ones_cons rfl (ones_cons rfl (ones_cons hv2.one (ones_cons hv4.one (ones_cons rfl ones_nil))))))) ?_; clear hS; rintro w hS
        replace hS := hS.n5
        refine ⟨⟨fun h => absurd h (by decide), hS.pk [0, 1]⟩, ?_⟩
        refine zdd <| zgj ⟨g3, v1, v2, v3, v4, hv2, hv4, rfl, hS⟩
       refine zka (xal (cs := [_, _, _, _, _]) el_175 hS) ?_; rintro _ w ⟨g3, rfl, hS⟩
       replace hS := hS.n5
       refine ⟨⟨fun _ => hS.pk [0, 1], hS.pk [0, 1]⟩, ?_⟩
       refine zda 19 (xap 3 (r := t.nf) (f := ints (cat 0 (fun _ => 0) t.F)) sl_22 el_3 hS (hT.F.below hS.below) (by exact cat_ints1 _ _ _)) ?_; rintro v4 w ⟨hS, hv4⟩
       replace hS := hS.n5
       refine ⟨⟨fun _ => hS.pk [0, 1], hS.pk [0, 1]⟩, ?_⟩
       refine zdv 20 (fun _ => (xany (v := .agg #[.int .i64 t.vars, .int .i64 (-(((t.C (row + 1)) (col + 1)))), v2, v4, .slice none 0 0]) (hr := by obtain ⟨_, _, _, _, rfl, _⟩ := hv2; obtain ⟨_, _, _, _, rfl, _⟩ := hv4; kernel_rfl))) ?_
       refine zde 22 (xsw 4 st_175 hS (hd := (ones_cons rfl (ones_cons rfl (ones_cons hv2.one (ones_cons hv4.one (ones_cons rfl ones_nil))))))) ?_; clear hS; rintro w hS
       replace hS := hS.n5
       refine ⟨⟨fun h => absurd h (by decide), hS.pk [0, 1]⟩, ?_⟩
       refine zdd <| zgj ⟨g3, v1, v2, v3, v4, hv2, hv4, rfl, hS⟩
      refine zka (xal (cs := [_, _, _, _, _]) el_175 hS) ?_; rintro _ w ⟨g3, rfl, hS⟩
      replace hS := hS.n4
      refine ⟨⟨fun _ => hS.pk [0, 1], hS.pk [0, 1]⟩, ?_⟩
      refine zda 16 (xl0 (c := ints (fun _ => 0)) sl_22 hS) ?_; rintro v3 w ⟨hS, hv3⟩
      replace hS := hS.n5
      refine ⟨⟨fun _ => hS.pk [0, 1], hS.pk [0, 1]⟩, ?_⟩
      refine zda 19 (xap 4 (r := t.nf) (f := ints (cat 0 (fun _ => 0) t.F)) sl_22 el_3 hS (hT.F.below hS.below) (by exact cat_ints1 _ _ _)) ?_; rintro v4 w ⟨hS, hv4⟩
      replace hS := hS.n5
      refine ⟨⟨fun _ => hS.pk [0, 1], hS.pk [0, 1]⟩, ?_⟩
      refine zdv 20 (fun _ => (xany (v := .agg #[.int .i64 t.vars, .int .i64 (-(((t.C (row + 1)) (col + 1)))), v2, v4, .slice none 0 0]) (hr := by obtain ⟨_, _, _, _, rfl, _⟩ := hv2; obtain ⟨_, _, _, _, rfl, _⟩ := hv4; kernel_rfl))) ?_
      refine zde 22 (xsw 3 st_175 hS (hd := (ones_cons rfl (ones_cons rfl (ones_cons hv2.one (ones_cons hv4.one (ones_cons rfl ones_nil))))))) ?_; clear hS; rintro w hS
      replace hS := hS.n5
      refine ⟨⟨fun h => absurd h (by decide), hS.pk [0, 1]⟩, ?_⟩
      refine zdd <| zgj ⟨g3, v1, v2, v3, v4, hv2, hv4, rfl, hS.pk [0, 1, 2, 4, 3]⟩
     ·
      refine zka (xl0 (c := ints (fun _ => 0)) sl_22 hS) ?_; rintro v2 w ⟨hS, hv2⟩
      replace hS := hS.n4
      refine ⟨⟨fun _ => hS.pk [0, 1], hS.pk [0, 1]⟩, ?_⟩
      refine zdfk (r := [15, 21]) ((zdn1 ?_ (zdn1 ?_ zdn0)))
      ·
       refine zka (xap 2 (r := t.nb) (f := ints (cat 0 (fun _ => 0) t.B)) sl_22 el_3 hS (hT.B.below hS.below) (by exact cat_ints1 _ _ _)) ?_; rintro v3 w ⟨hS, hv3⟩
       replace hS := hS.n4
       refine ⟨⟨fun _ => hS.pk [0, 1], hS.pk [0, 1]⟩, ?_⟩
       refine zdfk (r := [19, 21]) ((zdn1 ?_ (zdn1 ?_ zdn0)))
       ·
        refine zka (xap 3 (r := t.nf) (f := ints (cat 0 (fun _ => 0) t.F)) sl_22 el_3 hS (hT.F.below hS.below) (by exact cat_ints1 _ _ _)) ?_; rintro v4 w ⟨hS, hv4⟩
        replace hS := hS.n4
        refine ⟨⟨fun _ => hS.pk [0, 1], hS.pk [0, 1]⟩, ?_⟩
        refine zdv 20 (fun _ => (xany (v := .agg #[.int .i64 t.vars, .int .i64 (-(((t.C (row + 1)) (col + 1)))), v3, v4, .slice none 0 0]) (hr := by obtain ⟨_, _, _, _, rfl, _⟩ := hv3; obtain ⟨_, _, _, _, rfl, _⟩ := hv4; kernel_rfl))) ?_
        refine zda 21 (xal (cs := [_, _, _, _, _]) el_175 hS) ?_; rintro _ w ⟨g3, rfl, hS⟩
        replace hS := hS.n5
        refine ⟨⟨fun _ => hS.pk [0, 1], hS.pk [0, 1]⟩, ?_⟩
        refine zde 22 (xsw 4 st_175 hS (hd := (ones_cons rfl (ones_cons rfl (ones_cons hv3.one (ones_cons hv4.one (ones_cons rfl ones_nil))))))) ?_; clear hS; rintro w hS
        replace hS := hS.n5
        refine ⟨⟨fun h => absurd h (by decide), hS.pk [0, 1]⟩, ?_⟩
        refine zdd <| zgj ⟨g3, v1, v3, v2, v4, hv3, hv4, rfl, hS⟩
       refine zka (xal (cs := [_, _, _, _, _]) el_175 hS) ?_; rintro _ w ⟨g3, rfl, hS⟩
       replace hS := hS.n5
       refine ⟨⟨fun _ => hS.pk [0, 1], hS.pk [0, 1]⟩, ?_⟩
       refine zda 19 (xap 3 (r := t.nf) (f := ints (cat 0 (fun _ => 0) t.F)) sl_22 el_3 hS (hT.F.below hS.below) (by exact cat_ints1 _ _ _)) ?_; rintro v4 w ⟨hS, hv4⟩
       replace hS := hS.n5
       refine ⟨⟨fun _ => hS.pk [0, 1], hS.pk [0, 1]⟩, ?_⟩
       refine zdv 20 (fun _ => (xany (v := .agg #[.int .i64 t.vars, .int .i64 (-(((t.C (row + 1)) (col + 1)))), v3, v4, .slice none 0 0]) (hr := by obtain ⟨_, _, _, _, rfl, _⟩ := hv3; obtain ⟨_, _, _, _, rfl, _⟩ := hv4; kernel_rfl))) ?_
       refine zde 22 (xsw 4 st_175 hS (hd := (ones_cons rfl (ones_cons rfl (ones_cons hv3.one (ones_cons hv4.one (ones_cons rfl ones_nil))))))) ?_; clear hS; rintro w hS
       replace hS := hS.n5
       refine ⟨⟨fun h => absurd h (by decide), hS.pk [0, 1]⟩, ?_⟩
       refine zdd <| zgj ⟨g3, v1, v3, v2, v4, hv3, hv4, rfl, hS⟩
      refine zka (xal (cs := [_, _, _, _, _]) el_175 hS) ?_; rintro _ w ⟨g3, rfl, hS⟩
      replace hS := hS.n5
      refine ⟨⟨fun _ => hS.pk [0, 1], hS.pk [0, 1]⟩, ?_⟩
      refine zda 15 (xap 2 (r := t.nb) (f := ints (cat 0 (fun _ => 0) t.B)) sl_22 el_3 hS (hT.B.below hS.below) (by exact cat_ints1 _ _ _)) ?_; rintro v3 w ⟨hS, hv3⟩
      replace hS := hS.n5
      refine ⟨⟨fun _ => hS.pk [0, 1], hS.pk [0, 1]⟩, ?_⟩
      refine zda 19 (xap 3 (r := t.nf) (f := ints (cat 0 (fun _ => 0) t.F)) sl_22 el_3 hS (hT.F.below hS.below) (by exact cat_ints1 _ _ _)) ?_; rintro v4 w ⟨hS, hv4⟩
      replace hS := hS.n5
      refine ⟨⟨fun _ => hS.pk [0, 1], hS.pk [0, 1]⟩, ?_⟩
      refine zdv 20 (fun _ => (xany (v := .agg #[.int .i64 t.vars, .int .i64 (-(((t.C (row + 1)) (col + 1)))), v3, v4, .slice none 0 0]) (hr := by obtain ⟨_, _, _, _, rfl, _⟩ := hv3; obtain ⟨_, _, _, _, rfl, _⟩ := hv4; kernel_rfl))) ?_
      refine zde 22 (xsw 4 st_175 hS (hd := (ones_cons rfl (ones_cons rfl (ones_cons hv3.one (ones_cons hv4.one (ones_cons rfl ones_nil))))))) ?_; clear hS; rintro w hS
      replace hS := hS.n5
      refine ⟨⟨fun h => absurd h (by decide), hS.pk [0, 1]⟩, ?_⟩
      refine zdd <| zgj ⟨g3, v1, v3, v2, v4, hv3, hv4, rfl, hS⟩
     refine zka (xal (cs := [_, _, _, _, _]) el_175 hS) ?_; rintro _ w ⟨g3, rfl, hS⟩
     replace hS := hS.n4
     refine ⟨⟨fun _ => hS.pk [0, 1], hS.pk [0, 1]⟩, ?_⟩
     refine zdfk (r := [15, 16]) ((zdn1 ?_ (zdn1 ?_ zdn0)))
     ·
      refine zka (xap 2 (r := t.nb) (f := ints (cat 0 (fun _ => 0) t.B)) sl_22 el_3 hS (hT.B.below hS.below) (by exact cat_ints1 _ _ _)) ?_; rintro v2 w ⟨hS, hv2⟩
      replace hS := hS.n4
      refine ⟨⟨fun _ => hS.pk [0, 1], hS.pk [0, 1]⟩, ?_⟩
      refine zda 16 (xl0 (c := ints (fun _ => 0)) sl_22 hS) ?_; rintro v3 w ⟨hS, hv3⟩
      replace hS := hS.n5
      refine ⟨⟨fun _ => hS.pk [0, 1], hS.pk [0, 1]⟩, ?_⟩
      refine zda 19 (xap 4 (r := t.nf) (f := ints (cat 0 (fun _ => 0) t.F)) sl_22 el_3 hS (hT.F.below hS.below) (by exact cat_ints1 _ _ _)) ?_; rintro v4 w ⟨hS, hv4⟩
      replace hS := hS.n5
      refine ⟨⟨fun _ => hS.pk [0, 1], hS.pk [0, 1]⟩, ?_⟩
      refine zdv 20 (fun _ => (xany (v := .agg #[.int .i64 t.vars, .int .i64 (-(((t.C (row + 1)) (col + 1)))), v2, v4, .slice none 0 0]) (hr := by obtain ⟨_, _, _, _, rfl, _⟩ := hv2; obtain ⟨_, _, _, _, rfl, _⟩ := hv4; kernel_rfl))) ?_
      refine zde 22 (xsw 3 st_175 hS (hd := (ones_cons rfl (ones_cons rfl (ones_cons hv2.one (ones_cons hv4.one (ones_cons rfl ones_nil))))))) ?_; clear hS; rintro w hS
      replace hS := hS.n5
      refine ⟨⟨fun h => absurd h (by decide), hS.pk [0, 1]⟩, ?_⟩
      refine zdd <| zgj ⟨g3, v1, v2, v3, v4, hv2, hv4, rfl, hS.pk [0, 1, 2, 4, 3]⟩
     refine zka (xl0 (c := ints (fun _ => 0)) sl_22 hS) ?_; rintro v2 w ⟨hS, hv2⟩
     replace hS := hS.n5
     refine ⟨⟨fun _ => hS.pk [0, 1], hS.pk [0, 1]⟩, ?_⟩
     refine zda 15 (xap 2 (r := t.nb) (f := ints (cat 0 (fun _ => 0) t.B)) sl_22 el_3 hS (hT.B.below hS.below) (by exact cat_ints1 _ _ _)) ?_; rintro v3 w ⟨hS, hv3⟩
     replace hS := hS.n5
     refine ⟨⟨fun _ => hS.pk [0, 1], hS.pk [0, 1]⟩, ?_⟩
     refine zda 19 (xap 4 (r := t.nf) (f := ints (cat 0 (fun _ => 0) t.F)) sl_22 el_3 hS (hT.F.below hS.below) (by exact cat_ints1 _ _ _)) ?_; rintro v4 w ⟨hS, hv4⟩
     replace hS := hS.n5
     refine ⟨⟨fun _ => hS.pk [0, 1], hS.pk [0, 1]⟩, ?_⟩
     refine zdv 20 (fun _ => (xany (v := .agg #[.int .i64 t.vars, .int .i64 (-(((t.C (row + 1)) (col + 1)))), v3, v4, .slice none 0 0]) (hr := by obtain ⟨_, _, _, _, rfl, _⟩ := hv3; obtain ⟨_, _, _, _, rfl, _⟩ := hv4; kernel_rfl))) ?_
     refine zde 22 (xsw 3 st_175 hS (hd := (ones_cons rfl (ones_cons rfl (ones_cons hv3.one (ones_cons hv4.one (ones_cons rfl ones_nil))))))) ?_; clear hS; rintro w hS
     replace hS := hS.n5
     refine ⟨⟨fun h => absurd h (by decide), hS.pk [0, 1]⟩, ?_⟩
     refine zdd <| zgj ⟨g3, v1, v3, v2, v4, hv3, hv4, rfl, hS.pk [0, 1, 2, 4, 3]⟩
    ·
     refine zka (xl0 (c := ints (fun _ => 0)) sl_22 hS) ?_; rintro v1 w ⟨hS, hv1⟩
     replace hS := hS.n3
     refine ⟨⟨fun _ => hS.pk [0, 1], hS.pk [0, 1]⟩, ?_⟩
     refine zdfk (r := [12, 21]) ((zdn1 ?_ (zdn1 ?_ zdn0)))
     ·
      refine zka (xl0 (c := ints (fun _ => 0)) sl_22 hS) ?_; rintro v2 w ⟨hS, hv2⟩
      replace hS := hS.n4
      refine ⟨⟨fun _ => hS.pk [0, 1], hS.pk [0, 1]⟩, ?_⟩
      refine zdfk (r := [15, 21]) ((zdn1 ?_ (zdn1 ?_ zdn0)))
      ·
       refine zka (xap 3 (r := t.nb) (f := ints (cat 0 (fun _ => 0) t.B)) sl_22 el_3 hS (hT.B.below hS.below) (by exact cat_ints1 _ _ _)) ?_; rintro v3 w ⟨hS, hv3⟩
       replace hS := hS.n4
       refine ⟨⟨fun _ => hS.pk [0, 1], hS.pk [0, 1]⟩, ?_⟩
       refine zdfk (r := [19, 21]) ((zdn1 ?_ (zdn1 ?_ zdn0)))
       ·
        refine zka (xap 2 (r := t.nf) (f := ints (cat 0 (fun _ => 0) t.F)) sl_22 el_3 hS (hT.F.below hS.below) (by exact cat_ints1 _ _ _)) ?_; rintro v4 w ⟨hS, hv4⟩
        replace hS := hS.n4
        refine ⟨⟨fun _ => hS.pk [0, 1], hS.pk [0, 1]⟩, ?_⟩
        refine zdv 20 (fun _ => (xany (v := .agg #[.int .i64 t.vars, .int .i64 (-(((t.C (row + 1)) (col + 1)))), v3, v4, .slice none 0 0]) (hr := by obtain ⟨_, _, _, _, rfl, _⟩ := hv3; obtain ⟨_, _, _, _, rfl, _⟩ := hv4; kernel_rfl))) ?_
        refine zda 21 (xal (cs := [_, _, _, _, _]) el_175 hS) ?_; rintro _ w ⟨g3, rfl, hS⟩
        replace hS := hS.n5
        refine ⟨⟨fun _ => hS.pk [0, 1], hS.pk [0, 1]⟩, ?_⟩
        refine zde 22 (xsw 4 st_175 hS (hd := (ones_cons rfl (ones_cons rfl (ones_cons hv3.one (ones_cons hv4.one (ones_cons rfl ones_nil))))))) ?_; clear hS; rintro w hS
        replace hS := hS.n5
        refine ⟨⟨fun h => absurd h (by decide), hS.pk [0, 1]⟩, ?_⟩
        refine zdd <| zgj ⟨g3, v2, v3, v1, v4, hv3, hv4, rfl, hS.pk [0, 1, 3, 2, 4]⟩
       refine zka (xal (cs := [_, _, _, _, _]) el_175 hS) ?_; rintro _ w ⟨g3, rfl, hS⟩
       replace hS := hS.n5
       refine ⟨⟨fun _ => hS.pk [0, 1], hS.pk [0, 1]⟩, ?_⟩
       refine zda 19 (xap 2 (r := t.nf) (f := ints (cat 0 (fun _ => 0) t.F)) sl_22 el_3 hS (hT.F.below hS.below) (by exact cat_ints1 _ _ _)) ?_; rintro v4 w ⟨hS, hv4⟩
       replace hS := hS.n5
       refine ⟨⟨fun _ => hS.pk [0, 1], hS.pk [0, 1]⟩, ?_⟩
       refine zdv 20 (fun _ => (xany (v := .agg #[.int .i64 t.vars, .int .i64 (-(((t.C (row + 1)) (col + 1)))), v3, v4, .slice none 0 0]) (hr := by obtain ⟨_, _, _, _, rfl, _⟩ := hv3; obtain ⟨_, _, _, _, rfl, _⟩ := hv4; kernel_rfl))) ?_
       refine zde 22 (xsw 4 st_175 hS (hd := (ones_cons rfl (ones_cons rfl (ones_cons hv3.one (ones_cons hv4.one (ones_cons rfl ones_nil))))))) ?_; clear hS; rintro w hS
       replace hS := hS.n5
       refine ⟨⟨fun h => absurd h (by decide), hS.pk [0, 1]⟩, ?_⟩
       refine zdd <| zgj ⟨g3, v2, v3, v1, v4, hv3, hv4, rfl, hS.pk [0, 1, 3, 2, 4]⟩
      refine zka (xal (cs := [_, _, _, _, _]) el_175 hS) ?_; rintro _ w ⟨g3, rfl, hS⟩
      replace hS := hS.n5
      refine ⟨⟨fun _ => hS.pk [0, 1], hS.pk [0, 1]⟩, ?_⟩
      refine zda 15 (xap 3 (r := t.nb) (f := ints (cat 0 (fun _ => 0) t.B)) sl_22 el_3 hS (hT.B.below hS.below) (by exact cat_ints1 _ _ _)) ?_; rintro v3 w ⟨hS, hv3⟩
      replace hS := hS.n5
      refine ⟨⟨fun _ => hS.pk [0, 1], hS.pk [0, 1]⟩, ?_⟩
      refine zda 19 (xap 2 (r := t.nf) (f := ints (cat 0 (fun _ => 0) t.F)) sl_22 el_3 hS (hT.F.below hS.below) (by exact cat_ints1 _ _ _)) ?_; rintro v4 w ⟨hS, hv4⟩
      replace hS := hS.n5
      refine ⟨⟨fun _ => hS.pk [0, 1], hS.pk [0, 1]⟩, ?_⟩
      refine zdv 20 (fun _ => (xany (v := .agg #[.int .i64 t.vars, .int .i64 (-(((t.C (row + 1)) (col + 1)))), v3, v4, .slice none 0 0]) (hr := by obtain ⟨_, _, _, _, rfl, _⟩ := hv3; obtain ⟨_, _, _, _, rfl, _⟩ := hv4; kernel_rfl))) ?_
      refine zde 22 (xsw 4 st_175 hS (hd := (ones_cons rfl (ones_cons rfl (ones_cons hv3.one (ones_cons hv4.one (ones_cons rfl ones_nil))))))) ?_; clear hS; rintro w hS
      replace hS := hS.n5
      refine ⟨⟨fun h => absurd h (by decide), hS.pk [0, 1]⟩, ?_⟩
      refine zdd <| zgj ⟨g3, v2, v3, v1, v4, hv3, hv4, rfl, hS.pk [0, 1, 3, 2, 4]⟩
     refine zka (xal (cs := [_, _, _, _, _]) el_175 hS) ?_; rintro _ w ⟨g3, rfl, hS⟩
     replace hS := hS.n4
     refine ⟨⟨fun _ => hS.pk [0, 1], hS.pk [0, 1]⟩, ?_⟩
     refine zda 12 (xl0 (c := ints (fun _ => 0)) sl_22 hS) ?_; rintro v2 w ⟨hS, hv2⟩
     replace hS := hS.n5
     refine ⟨⟨fun _ => hS.pk [0, 1], hS.pk [0, 1]⟩, ?_⟩
     refine zda 15 (xap 4 (r := t.nb) (f := ints (cat 0 (fun _ => 0) t.B)) sl_22 el_3 hS (hT.B.below hS.below) (by exact cat_ints1 _ _ _)) ?_; rintro v3 w ⟨hS, hv3⟩
     replace hS := hS.n5
     refine ⟨⟨fun _ => hS.pk [0, 1], hS.pk [0, 1]⟩, ?_⟩
     refine zda 19 (xap 2 (r := t.nf) (f := ints (cat 0 (fun _ => 0) t.F)) sl_22 el_3 hS (hT.F.below hS.below) (by exact cat_ints1 _ _ _)) ?_; rintro v4 w ⟨hS, hv4⟩
     replace hS := hS.n5
     refine ⟨⟨fun _ => hS.pk [0, 1], hS.pk [0, 1]⟩, ?_⟩
     refine zdv 20 (fun _ => (xany (v := .agg #[.int .i64 t.vars, .int .i64 (-(((t.C (row + 1)) (col + 1)))), v3, v4, .slice none 0 0]) (hr := by obtain ⟨_, _, _, _, rfl, _⟩ := hv3; obtain ⟨_, _, _, _, rfl, _⟩ := hv4; kernel_rfl))) ?_
     refine zde 22 (xsw 3 st_175 hS (hd := (ones_cons rfl (ones_cons rfl (ones_cons hv3.one (ones_cons hv4.one (ones_cons rfl ones_nil))))))) ?_; clear hS; rintro w hS
     replace hS := hS.n5
     refine ⟨⟨fun h => absurd h (by decide), hS.pk [0, 1]⟩, ?_⟩
     refine zdd <| zgj ⟨g3, v2, v3, v1, v4, hv3, hv4, rfl, hS.pk [0, 1, 4, 2, 3]⟩
    refine zka (xal (cs := [_, _, _, _, _]) el_175 hS) ?_; rintro _ w ⟨g3, rfl, hS⟩
    replace hS := hS.n3
    refine ⟨⟨fun _ => hS.pk [0, 1], hS.pk [0, 1]⟩, ?_⟩
    refine zdfk (r := [12, 16]) ((zdn1 ?_ (zdn1 ?_ zdn0)))
    ·
     refine zka (xl0 (c := ints (fun _ => 0)) sl_22 hS) ?_; rintro v1 w ⟨hS, hv1⟩
     replace hS := hS.n4
     refine ⟨⟨fun _ => hS.pk [0, 1], hS.pk [0, 1]⟩, ?_⟩
     refine zdfk (r := [15, 16]) ((zdn1 ?_ (zdn1 ?_ zdn0)))
     ·
      refine zka (xap 3 (r := t.nb) (f := ints (cat 0 (fun _ => 0) t.B)) sl_22 el_3 hS (hT.B.below hS.below) (by exact cat_ints1 _ _ _)) ?_; rintro v2 w ⟨hS, hv2⟩
      replace hS := hS.n4
      refine ⟨⟨fun _ => hS.pk [0, 1], hS.pk [0, 1]⟩, ?_⟩
      refine zda 16 (xl0 (c := ints (fun _ => 0)) sl_22 hS) ?_; rintro v3 w ⟨hS, hv3⟩
      replace hS := hS.n5
      refine ⟨⟨fun _ => hS.pk [0, 1], hS.pk [0, 1]⟩, ?_⟩
      refine zda 19 (xap 4 (r := t.nf) (f := ints (cat 0 (fun _ => 0) t.F)) sl_22 el_3 hS (hT.F.below hS.below) (by exact cat_ints1 _ _ _)) ?_; rintro v4 w ⟨hS, hv4⟩
      replace hS := hS.n5
      refine ⟨⟨fun _ => hS.pk [0, 1], hS.pk [0, 1]⟩, ?_⟩
      refine zdv 20 (fun _ => (xany (v := .agg #[.int .i64 t.vars, .int .i64 (-(((t.C (row + 1)) (col + 1)))), v2, v4, .slice none 0 0]) (hr := by obtain ⟨_, _, _, _, rfl, _⟩ := hv2; obtain ⟨_, _, _, _, rfl, _⟩ := hv4; kernel_rfl))) ?_
      refine zde 22 (xsw 2 st_175 hS (hd := (ones_cons rfl (ones_cons rfl (ones_cons hv2.one (ones_cons hv4.one (ones_cons rfl ones_nil))))))) ?_; clear hS; rintro w hS
      replace hS := hS.n5
      refine ⟨⟨fun h => absurd h (by decide), hS.pk [0, 1]⟩, ?_⟩
      refine zdd <| zgj ⟨g3, v1, v2, v3, v4, hv2, hv4, rfl, hS.pk [0, 1, 3, 4, 2]⟩
     refine zka (xl0 (c := ints (fun _ => 0)) sl_22 hS) ?_; rintro v2 w ⟨hS, hv2⟩
     replace hS := hS.n5
     refine ⟨⟨fun _ => hS.pk [0, 1], hS.pk [0, 1]⟩, ?_⟩
     refine zda 15 (xap 3 (r := t.nb) (f := ints (cat 0 (fun _ => 0) t.B)) sl_22 el_3 hS (hT.B.below hS.below) (by exact cat_ints1 _ _ _)) ?_; rintro v3 w ⟨hS, hv3⟩
     replace hS := hS.n5
     refine ⟨⟨fun _ => hS.pk [0, 1], hS.pk [0, 1]⟩, ?_⟩
     refine zda 19 (xap 4 (r := t.nf) (f := ints (cat 0 (fun _ => 0) t.F)) sl_22 el_3 hS (hT.F.below hS.below) (by exact cat_ints1 _ _ _)) ?_; rintro v4 w ⟨hS, hv4⟩
     replace hS := hS.n5
     refine ⟨⟨fun _ => hS.pk [0, 1], hS.pk [0, 1]⟩, ?_⟩
     refine zdv 20 (fun _ => (xany (v := .agg #[.int .i64 t.vars, .int .i64 (-(((t.C (row + 1)) (col + 1)))), v3, v4, .slice none 0 0]) (hr := by obtain ⟨_, _, _, _, rfl, _⟩ := hv3; obtain ⟨_, _, _, _, rfl, _⟩ := hv4; kernel_rfl))) ?_
     refine zde 22 (xsw 2 st_175 hS (hd := (ones_cons rfl (ones_cons rfl (ones_cons hv3.one (ones_cons hv4.one (ones_cons rfl ones_nil))))))) ?_; clear hS; rintro w hS
     replace hS := hS.n5
     refine ⟨⟨fun h => absurd h (by decide), hS.pk [0, 1]⟩, ?_⟩
     refine zdd <| zgj ⟨g3, v1, v3, v2, v4, hv3, hv4, rfl, hS.pk [0, 1, 3, 4, 2]⟩
    refine zka (xl0 (c := ints (fun _ => 0)) sl_22 hS) ?_; rintro v1 w ⟨hS, hv1⟩
    replace hS := hS.n4
    refine ⟨⟨fun _ => hS.pk [0, 1], hS.pk [0, 1]⟩, ?_⟩
    refine zda 12 (xl0 (c := ints (fun _ => 0)) sl_22 hS) ?_; rintro v2 w ⟨hS, hv2⟩
    replace hS := hS.n5
    refine ⟨⟨fun _ => hS.pk [0, 1], hS.pk [0, 1]⟩, ?_⟩
    refine zda 15 (xap 4 (r := t.nb) (f := ints (cat 0 (fun _ => 0) t.B)) sl_22 el_3 hS (hT.B.below hS.below) (by exact cat_ints1 _ _ _)) ?_; rintro v3 w ⟨hS, hv3⟩
    replace hS := hS.n5
    refine ⟨⟨fun _ => hS.pk [0, 1], hS.pk [0, 1]⟩, ?_⟩
    refine zda 19 (xap 3 (r := t.nf) (f := ints (cat 0 (fun _ => 0) t.F)) sl_22 el_3 hS (hT.F.below hS.below) (by exact cat_ints1 _ _ _)) ?_; rintro v4 w ⟨hS, hv4⟩
    replace hS := hS.n5
    refine ⟨⟨fun _ => hS.pk [0, 1], hS.pk [0, 1]⟩, ?_⟩
    refine zdv 20 (fun _ => (xany (v := .agg #[.int .i64 t.vars, .int .i64 (-(((t.C (row + 1)) (col + 1)))), v3, v4, .slice none 0 0]) (hr := by obtain ⟨_, _, _, _, rfl, _⟩ := hv3; obtain ⟨_, _, _, _, rfl, _⟩ := hv4; kernel_rfl))) ?_
    refine zde 22 (xsw 2 st_175 hS (hd := (ones_cons rfl (ones_cons rfl (ones_cons hv3.one (ones_cons hv4.one (ones_cons rfl ones_nil))))))) ?_; clear hS; rintro w hS
    replace hS := hS.n5
    refine ⟨⟨fun h => absurd h (by decide), hS.pk [0, 1]⟩, ?_⟩
    refine zdd <| zgj ⟨g3, v2, v3, v1, v4, hv3, hv4, rfl, hS.pk [0, 1, 4, 3, 2]⟩
   clear hS w; rintro M w ⟨g3, v1, v2, v3, v4, hv2, hv4, rfl, hS⟩
   refine ztn <| zsq ?_
   refine zdst [0, 1, 2, 3, 4] [0, 1, 4] 17 mx_ hS ?_; clear hS; intro w hS
   refine zdv 0 (fun _ => (xfb 2 fd_175_2)) ?_
   have hsg : sg (t.C (row + 1) (col + 1)) = -1 := by unfold sg; rw [if_pos (by omega)]
   refine zdla 1 (fun w hS => (xlb 2 pl_22 hS)) ?_
   refine zdv 2 (fun _ => xmv) ?_
   refine zdv 3 (fun _ => (xfb 3 fd_175_3)) ?_
   refine zdla 4 (fun w hS => (xlb 2 pl_22 hS)) ?_
   refine zdv 5 (fun _ => xmv) ?_
   refine zdv 6 (fun _ => (xfb 3 fd_175_3)) ?_
   refine zdla 7 (fun w hS => (xlb 0 pl_22 hS)) ?_
   refine zdv 8 (fun _ => xmv) ?_
   refine zdv 9 (fun _ => (xix (kk := col) sl_22 hT.F.slh)) ?_
   refine zdla 10 (fun w hS => (xlr (u := .int .i64 (t.F col)) pl_3 (hT.F.below hS.below))) ?_
   refine zdv 11 (fun _ => (xfb 2 fd_175_2)) ?_
   refine zdla 12 (fun w hS => (xlb 0 pl_22 hS)) ?_
   refine zdv 13 (fun _ => xmv) ?_
   refine zdv 14 (fun _ => (xix (kk := row) sl_22 hT.B.slh)) ?_
   refine zdla 15 (fun w hS => (xlr (u := .int .i64 (t.B row)) pl_3 (hT.B.below hS.below))) ?_
   refine zdv 16 (fun _ => (xix (kk := row) sl_22 hv2)) ?_
   refine zde 17 (xso 2 pl_3 hS (upd_ints _ _ _)) ?_; clear hS; rintro w hS
   replace hS := hS.n5
   refine ⟨⟨fun h => absurd h (by decide), hS.pk [0, 1, 4]⟩, ?_⟩
   refine zdv 18 (fun _ => (xix (kk := col) sl_22 hv4)) ?_
   refine zde 19 (xso 3 pl_3 hS (upd_ints _ _ _)) ?_; clear hS; rintro w hS
   replace hS := hS.n5
   refine ⟨⟨fun h => absurd h (by decide), hS.pk [0, 1, 4]⟩, ?_⟩
   refine zdd <| ztn <| zsr ?_
   refine zlv xas ?_
   refine zlas 12 (u := B (True)) (B_true trivial).symm ?_
   refine zlt <| zsq <| zsr ?_
   refine zlv xas ?_
   refine zlt <| zbk ?_
   replace hS := hS.addnil 1 22 (fun _ => Value.slice none 0 0)
   replace hS := hS.n6
   replace hS := hS.addrows 3 (fun _ => Value.slice none 0 0) t.ln ((piv t row col).C)
   replace hS := hS.n7
   replace hS := hS.n7
   have hrs0 := fun k (k0 : 0 ≤ k) (k1 : k < 0) => hS.slhIn 6 rfl k0 k1
   refine zlp (fun mm M w => ∃ (sm : Prop) (nC : Int) (wv : Int → Value) (i : Int) (wC : Value), mm = ((t.nc - i).toNat) ∧ (0 ≤ i) ∧ (i ≤ t.nc) ∧ (nC = i) ∧ (sm ↔ (∀ a b, 0 ≤ a → a < i → 0 ≤ b → b ≤ t.nf → -1073741824 ≤ pcell t (row + 1) (col + 1) a b ∧ pcell t (row + 1) (col + 1) a b ≤ 1073741824)) ∧ (∀ a b, 0 ≤ a → a < i → 0 ≤ b → b ≤ t.nf → divs t (row + 1) (col + 1) a b) ∧ (Slh wC nC) ∧ M = [(3, .pointer (some ⟨g1, 0, none⟩)), (6, .pointer (some ⟨g2, 0, none⟩)), (8, .int .i64 (row + 1)), (9, .int .i64 (col + 1)), (10, .int .i64 (-1)), (11, .pointer (some ⟨g3, 0, none⟩)), (12, B (sm)), (13, .int .i64 i)] ∧ Sat w0 w [.blk g1 [.int .i64 t.vars, .int .i64 t.den, vB, vF, vC], .blk g2 [.int .i64 0, .int .i64 0, .slice none 0 0, .slice none 0 0, .slice none 0 0], .own v2 1 3 t.nb (ints (upd (cat 0 (fun _ => 0) t.B) row (t.F col))), .own v4 1 3 t.nf (ints (upd (cat 0 (fun _ => 0) t.F) col (t.B row))), .blk g3 [.int .i64 t.vars, .int .i64 (-(((t.C (row + 1)) (col + 1)))), v2, v4, wC], .own wC 1 22 nC wv, .sem (Frame.rows 3 nC wv t.ln ((piv t row col).C))]) ⟨True, 0, (fun _ => Value.slice none 0 0), 0, (.slice none 0 0), rfl, (by omega), (by omega), (by omega), ?_, ?_, ?_, rfl, hS⟩ ?_
   ·
    exact ⟨fun _ a b a0 a1 => by omega, fun _ => trivial⟩
   ·
    intro a b a0 a1; omega
   ·
    exact slh_nil
   clear hS w
   rintro mm M w ⟨sm, nC, wv, i, wC, rfl, h0, h1, hnC, hsm, hdv, hwC, rfl, hS⟩
   have hrs1 := fun k (k0 : 0 ≤ k) (k1 : k < nC) => hS.slhIn 6 rfl k0 k1
   refine zsq <| zsr ?_
   refine zlv xmv ?_
   refine zlv (xfb 4 fd_175_4) ?_
   refine zlv (xlb 0 pl_27 hS) ?_
   refine zlv (xln sl_27 hT.C.row.slh) ?_
   refine zlv xlss ?_
   refine zlt ?_
   refine zcif ?_ ?_ <;> intro hc
   ·
    refine zsk <| ztn <| zsq <| zbk <| zsr ?_
    refine zlv xas ?_
    refine zlt <| zsq <| zsr ?_
    refine zlv xas ?_
    refine zlt <| zbk ?_
    replace hS := hS.addnil 1 3 (ints (fun _ => 0))
    replace hS := hS.n8
    refine zlp (fun mm M w => ∃ (sn : Prop) (nl : Int) (j : Int) (wl : Value) (fl : Int → Int), mm = ((t.nf + 1 - j).toNat) ∧ (0 ≤ j) ∧ (j ≤ t.nf + 1) ∧ (nl = j) ∧ (sn ↔ ((∀ a b, 0 ≤ a → a < i → 0 ≤ b → b ≤ t.nf → -1073741824 ≤ pcell t (row + 1) (col + 1) a b ∧ pcell t (row + 1) (col + 1) a b ≤ 1073741824) ∧ ∀ b, 0 ≤ b → b < j → -1073741824 ≤ pcell t (row + 1) (col + 1) i b ∧ pcell t (row + 1) (col + 1) i b ≤ 1073741824)) ∧ (∀ b, 0 ≤ b → b < j → divs t (row + 1) (col + 1) i b) ∧ (∀ b, 0 ≤ b → b < j → fl b = (piv t row col).C i b) ∧ (Slh wl nl) ∧ M = [(3, .pointer (some ⟨g1, 0, none⟩)), (6, .pointer (some ⟨g2, 0, none⟩)), (8, .int .i64 (row + 1)), (9, .int .i64 (col + 1)), (10, .int .i64 (-1)), (11, .pointer (some ⟨g3, 0, none⟩)), (12, B (sn)), (13, .int .i64 i), (14, wl), (15, .int .i64 j)] ∧ Sat w0 w [.blk g1 [.int .i64 t.vars, .int .i64 t.den, vB, vF, vC], .blk g2 [.int .i64 0, .int .i64 0, .slice none 0 0, .slice none 0 0, .slice none 0 0], .own v2 1 3 t.nb (ints (upd (cat 0 (fun _ => 0) t.B) row (t.F col))), .own v4 1 3 t.nf (ints (upd (cat 0 (fun _ => 0) t.F) col (t.B row))), .blk g3 [.int .i64 t.vars, .int .i64 (-(((t.C (row + 1)) (col + 1)))), v2, v4, wC], .own wC 1 22 nC wv, .sem (Frame.rows 3 nC wv t.ln ((piv t row col).C)), .own wl 1 3 nl (ints fl)]) ⟨sm, 0, 0, (.slice none 0 0), (fun _ => 0), rfl, (by omega), (by omega), (by omega), ?_, ?_, ?_, ?_, rfl, hS⟩ ?_
    ·
     exact ⟨fun h => ⟨hsm.1 h, fun b b0 b1 => by omega⟩, fun h => hsm.2 h.1⟩
    ·
     intro b b0 b1; omega
    ·
     intro b b0 b1; omega
    ·
     exact slh_nil
    clear hS w
    rintro mm M w ⟨sn, nl, j, wl, fl, rfl, j0, j1, hnl, hsn, hdr, hfl, hwl, rfl, hS⟩
    refine zsq <| zsr ?_
    refine zlv xmv ?_
    refine zlv (xfb 4 fd_175_4) ?_
    refine zlv (xlb 0 pl_27 hS) ?_
    have hli := hp.len (i := i) (by omega) (by omega)
    refine zlv xmv ?_
    refine zlv (xix (kk := i) sl_27 hT.C.row.slh) ?_
    refine zlv (xlr (u := (vv i)) pl_22 (hT.C.row.below hS.below)) ?_
    refine zlv (xln sl_22 (hT.C.p i (by omega) (by omega)).slh) ?_
    refine zlv xlss ?_
    refine zlt ?_
    refine zcif ?_ ?_ <;> intro hc
    ·
     refine zsk <| ztn <| zsq <| zbk <| zsr ?_
     refine zlv (xls 0 st_175 hS) ?_
     refine zs4 ?_
     refine zlc (xc0 cl_178) (c_cell (t := t) (i := i) (j := j) (r := (row + 1)) (s := (col + 1)) w (hT.below hS.below) hp (by omega) (by omega) (by omega) (by omega) (by omega) (by omega) (by omega) (by omega)) ?_; rintro _ w ⟨nn1, _, rfl, hnn1, rfl, hS'⟩
     replace hS := hS.cmp hS'; clear hS'
     refine zs2 ?_
     have hpcb := pcell_bd hp (r := row + 1) (s := col + 1) (i := i) (j := j) (by omega) (by omega) (by omega) (by omega) (by omega) (by omega) (by omega) (by omega); rw [← hnn1] at hpcb
     refine zs3 ?_
     refine zlt <| zsq <| zsr ?_
     refine zs2 ?_
     refine zlt ?_
     refine zcif ?_ ?_ <;> intro hc
     ·
      refine zsr ?_
      refine zlv (xany (v := .agg #[.int .i64 0, .int .i64 0, .slice none 0 0, .slice none 0 0, .slice none 0 0])) ?_
      refine zle (xsw 1 st_175 hS) ?_; clear hS; rintro w hS
      replace hS := hS.n8
      refine zlv xas ?_
      refine zlt <| zrt <| ztr <| zbr <| ztr <| ztr <| zbr <| ztr <| zbr <| ztr <| ztr <| zbr <| ztr <| zfct 1 st_175 hS ⟨_, rfl, ?_⟩
      exact ⟨_, _, _, fun _ => undef, Tb.zero, 4, rfl, .inr (.inl ⟨⟨hp, by omega, by omega, by omega, by omega, hnz⟩, fun hd => absurd (hd i j (by omega) (by omega) (by omega) (by omega)) ‹_›, rfl, rfl⟩), slh_nil, slh_nil, slh_nil, ((((hS.sub (.cons _ (.cons _ (.cons _ (.cons _ (.cons _ (.cons _ (.cons _ (.cons _ .slnil))))))))).addnil 1 3 (ints Tb.zero.B)).addnil 1 3 (ints Tb.zero.F)).addnil 1 22 (fun _ => undef)).addrows 3 (fun _ => undef) Tb.zero.ln Tb.zero.C⟩
     refine zsk <| ztn <| zsr ?_
     refine zs2 ?_
     refine zlb 139 ?_ ?_ <;> intro hc
     ·
      refine zs4 ?_
      refine zlb 143 ?_ ?_ <;> intro hc
      ·
       refine zs4 ?_
       refine zlt <| zrg ?_
       refine zs3 ?_
       refine zlv (xmul (r := -nn1)) ?_
       refine zla (xli (n := 1) (len := 1) (pv := [(0, .int .i64 (-nn1))]) (cs := [.int .i64 (-nn1)]) (c := ints (fun _ => -nn1)) sl_22 el_3 hS) ?_; rintro v5 w ⟨hS, hv5⟩
       replace hS := hS.n9
       refine zla (xap 7 (r := nl + 1) sl_22 el_3 hS (hS.rowN 8 rfl) (cat_snoc _ _ _)) ?_; rintro v6 w ⟨hS, hv6⟩
       replace hS := hS.n9
       refine zlv xas ?_
       refine zln <| zbn <| ztn <| zrg ?_
       refine zlv xmv ?_
       refine zlv (xadd (r := j + 1)) ?_
       refine zlv xas ?_
       refine zln <| zlq ⟨nn1 ≤ 1073741824, nl + 1, j + 1, v6, (snoc fl nl (-nn1)), rfl, (by omega), (by omega), (by omega), ?_, ?_, ?_, ?_, rfl, hS.pk [0, 1, 2, 3, 4, 5, 6, 7]⟩
       ·
        constructor
        · intro hx
          first
          | exact hx.elim
          | exact ⟨(hsn.1 (by assumption)).1, fun b b0 b1 => by
            by_cases e : b = j
            · rw [e]; omega
            · exact (hsn.1 (by assumption)).2 b b0 (by omega)⟩
        · rintro ⟨h1, h2⟩
          have h3 := h2 j j0 (by omega)
          first
          | omega
          | exact absurd (hsn.2 ⟨h1, fun b b0 b1 => h2 b b0 (by omega)⟩) (by assumption)
       ·
        have hdq : divs t (row + 1) (col + 1) i j := by first | assumption | exact Classical.not_not.1 ‹_›
        intro b b0 b1
        by_cases e : b = j
        · rw [e]; exact hdq
        · exact hdr b b0 (by omega)
       ·
        intro b b0 b1; by_cases e : b < nl
        · rw [snoc_lt e]; exact hfl b b0 (by omega)
        · obtain rfl : b = j := by omega
          rw [snoc_at e, piv_C, hsg, ← hnn1]; omega
       ·
        exact hv6
      iterate 2 refine zlo ?_
      refine zs2 ?_
      refine zlas 12 (u := B (False)) (B_false not_false).symm ?_
      refine zlt <| zrg ?_
      refine zs3 ?_
      refine zlv (xmul (r := -nn1)) ?_
      refine zla (xli (n := 1) (len := 1) (pv := [(0, .int .i64 (-nn1))]) (cs := [.int .i64 (-nn1)]) (c := ints (fun _ => -nn1)) sl_22 el_3 hS) ?_; rintro v7 w ⟨hS, hv7⟩
      replace hS := hS.n9
      refine zla (xap 7 (r := nl + 1) sl_22 el_3 hS (hS.rowN 8 rfl) (cat_snoc _ _ _)) ?_; rintro v8 w ⟨hS, hv8⟩
      replace hS := hS.n9
      refine zlv xas ?_
      refine zln <| zbn <| ztn <| zrg ?_
      refine zlv xmv ?_
      refine zlv (xadd (r := j + 1)) ?_
      refine zlv xas ?_
      refine zln <| zlq ⟨False, nl + 1, j + 1, v8, (snoc fl nl (-nn1)), rfl, (by omega), (by omega), (by omega), ?_, ?_, ?_, ?_, rfl, hS.pk [0, 1, 2, 3, 4, 5, 6, 7]⟩
      ·
       constructor
       · intro hx
         first
         | exact hx.elim
         | exact ⟨(hsn.1 (by assumption)).1, fun b b0 b1 => by
           by_cases e : b = j
           · rw [e]; omega
           · exact (hsn.1 (by assumption)).2 b b0 (by omega)⟩
       · rintro ⟨h1, h2⟩
         have h3 := h2 j j0 (by omega)
         first
         | omega
         | exact absurd (hsn.2 ⟨h1, fun b b0 b1 => h2 b b0 (by omega)⟩) (by assumption)
      ·
       have hdq : divs t (row + 1) (col + 1) i j := by first | assumption | exact Classical.not_not.1 ‹_›
       intro b b0 b1
       by_cases e : b = j
       · rw [e]; exact hdq
       · exact hdr b b0 (by omega)
      ·
       intro b b0 b1; by_cases e : b < nl
       · rw [snoc_lt e]; exact hfl b b0 (by omega)
       · obtain rfl : b = j := by omega
         rw [snoc_at e, piv_C, hsg, ← hnn1]; omega
      ·
       exact hv8
     iterate 2 refine zlo ?_
     refine zs2 ?_
     iterate 2 refine zlo ?_
     refine zs2 ?_
     refine zlas 12 (u := B (False)) (B_false not_false).symm ?_
     refine zlt <| zrg ?_
     refine zs3 ?_
     refine zlv (xmul (r := -nn1)) ?_
     refine zla (xli (n := 1) (len := 1) (pv := [(0, .int .i64 (-nn1))]) (cs := [.int .i64 (-nn1)]) (c := ints (fun _ => -nn1)) sl_22 el_3 hS) ?_; rintro v9 w ⟨hS, hv9⟩
     replace hS := hS.n9
     refine zla (xap 7 (r := nl + 1) sl_22 el_3 hS (hS.rowN 8 rfl) (cat_snoc _ _ _)) ?_; rintro v10 w ⟨hS, hv10⟩
     replace hS := hS.n9
     refine zlv xas ?_
     refine zln <| zbn <| ztn <| zrg ?_
     refine zlv xmv ?_
     refine zlv (xadd (r := j + 1)) ?_
     refine zlv xas ?_
     refine zln <| zlq ⟨False, nl + 1, j + 1, v10, (snoc fl nl (-nn1)), rfl, (by omega), (by omega), (by omega), ?_, ?_, ?_, ?_, rfl, hS.pk [0, 1, 2, 3, 4, 5, 6, 7]⟩
     ·
      constructor
      · intro hx
        first
        | exact hx.elim
        | exact ⟨(hsn.1 (by assumption)).1, fun b b0 b1 => by
          by_cases e : b = j
          · rw [e]; omega
          · exact (hsn.1 (by assumption)).2 b b0 (by omega)⟩
      · rintro ⟨h1, h2⟩
        have h3 := h2 j j0 (by omega)
        first
        | omega
        | exact absurd (hsn.2 ⟨h1, fun b b0 b1 => h2 b b0 (by omega)⟩) (by assumption)
     ·
      have hdq : divs t (row + 1) (col + 1) i j := by first | assumption | exact Classical.not_not.1 ‹_›
      intro b b0 b1
      by_cases e : b = j
      · rw [e]; exact hdq
      · exact hdr b b0 (by omega)
     ·
      intro b b0 b1; by_cases e : b < nl
      · rw [snoc_lt e]; exact hfl b b0 (by omega)
      · obtain rfl : b = j := by omega
        rw [snoc_at e, piv_C, hsg, ← hnn1]; omega
     ·
      exact hv10
    refine zxt <| ztx <| ztx <| zbh <| ztn <| zrg ?_
    refine zlv (xfb 4 fd_175_4) ?_
    refine zlv (xlb 4 pl_27 hS) ?_
    refine zlv xmv ?_
    refine zla (xli (n := 1) (len := 1) (pv := [(0, wl)]) (cs := [wl]) (c := (fun _ => wl)) sl_27 el_22 hS (hf := by obtain ⟨_, _, _, _, rfl, _⟩ := hwl; kernel_rfl)) ?_; rintro v11 w ⟨hS, hv11⟩
    replace hS := hS.n9
    refine zla (xap 5 (r := nC + 1) sl_27 el_22 hS (hS.rowN 8 rfl) (cat_gsn _ _ _) (h1 := fun _ _ _ => hwl.one)) ?_; rintro v12 w ⟨hS, hv12⟩
    replace hS := hS.n9
    replace hS := Sat.merge (l1 := [_, _, _, _, _, _]) (l2 := []) (l3 := [_]) hS (by omega)
    have hrs2 := fun k (k0 : 0 ≤ k) (k1 : k < nC + 1) => hS.slhIn 6 rfl k0 k1
    replace hS := hS.n8
    replace hS := hS.rerows (vv' := gsn wv nC wl) (ln' := t.ln) (f' := (piv t row col).C) 6 rfl (fun k k0 k1 => by
      by_cases e : k < i
      · exact ⟨rfl, gsn_lt (by omega), fun j _ _ => by rw [gsn_lt (by omega)]⟩
      · have hki : k = i := by omega
        refine ⟨rfl, ?_, fun b b0 b1 => ?_⟩
        · rw [gsn_at (by omega), hki]; omega
        · rw [gsn_at (by omega), hki]; exact hfl b b0 (by rw [gsn_at (by omega)] at b1; omega))
    replace hS := hS.n8
    have hrs2x := fun k (k0 : 0 ≤ k) (k1 : k < nC + 1) => hS.slhIn 6 rfl k0 k1
    refine zlv (xfb 4 fd_175_4) ?_
    refine zle (xsb 4 pl_27 hS (hv := hv12.one)) ?_; clear hS; rintro w hS
    replace hS := hS.n8
    refine zln <| zbn <| ztn <| zrg ?_
    refine zlv xmv ?_
    refine zlv (xadd (r := i + 1)) ?_
    refine zlv xas ?_
    refine zln <| zlq ⟨sn, nC + 1, gsn wv nC wl, i + 1, v12, rfl, (by omega), (by omega), (by omega), ?_, ?_, ?_, rfl, hS.pk [0, 1, 2, 3, 4, 5, 6]⟩
    ·
     exact hsn.trans ⟨fun ⟨h1, h2⟩ a b a0 a1 b0 b1 => by
      by_cases e : a = i
      · rw [e]; exact h2 b b0 (by omega)
      · exact h1 a b a0 (by omega) b0 b1, fun h => ⟨fun a b a0 a1 b0 b1 => h a b a0 (by omega) b0 b1, fun b b0 b1 => h i b h0 (by omega) b0 (by omega)⟩⟩
    ·
     intro a b a0 a1 b0 b1
     by_cases e : a = i
     · subst e; exact hdr b b0 (by omega)
     · exact hdv a b a0 (by omega) b0 b1
    ·
     exact hv12
   refine zxt <| ztx <| ztx <| zbh <| ztn <| zsq <| zsr ?_
   refine zs2 ?_
   refine zlt ?_
   refine zcif ?_ ?_ <;> intro hc
   ·
    refine zsr ?_
    refine zlv (xany (v := .agg #[.int .i64 0, .int .i64 0, .slice none 0 0, .slice none 0 0, .slice none 0 0])) ?_
    refine zle (xsw 1 st_175 hS) ?_; clear hS; rintro w hS
    replace hS := hS.n7
    refine zlv xas ?_
    refine zlt <| zrt <| ztr <| zfct 1 st_175 hS ⟨_, rfl, ?_⟩
    exact ⟨_, _, _, fun _ => undef, Tb.zero, 2, rfl, .inr (.inr (.inl ⟨⟨hp, by omega, by omega, by omega, by omega, hnz⟩, fun a b a0 a1 b0 b1 => hdv a b a0 (by omega) b0 b1, fun hq => absurd (hsm.2 fun a b a0 a1 b0 b1 => by have hq1 := hq.cell (i := a) (j := b) a0 (by show a ≤ t.nb; omega) b0 b1; rw [piv_C, hsg] at hq1; omega) ‹_›, rfl, rfl⟩)), slh_nil, slh_nil, slh_nil, ((((hS.sub (.cons _ (.cons _ (.cons _ (.cons _ (.cons _ (.cons _ (.cons _ .slnil)))))))).addnil 1 3 (ints Tb.zero.B)).addnil 1 3 (ints Tb.zero.F)).addnil 1 22 (fun _ => undef)).addrows 3 (fun _ => undef) Tb.zero.ln Tb.zero.C⟩
   refine zsk <| ztn <| zsr ?_
   refine zlv (xls 4 st_175 hS) ?_
   refine zle (xsw 1 st_175 hS (hd := (ones_cons rfl (ones_cons rfl (ones_cons hv2.one (ones_cons hv4.one (ones_cons hwC.one ones_nil))))))) ?_; clear hS; rintro w hS
   replace hS := hS.n7
   refine zlv xas ?_
   refine zlt <| zrt <| zfct 1 st_175 hS ⟨_, rfl, ?_⟩
   obtain rfl : i = t.nc := by omega
   have hden : -(((t.C (row + 1)) (col + 1))) = (piv t row col).den := by rw [piv_den, hsg]; omega
   replace hS := hS.recont 2 rfl (d := ints (piv t row col).B) (fun k k0 k1 => by unfold ints; show Value.int .i64 (upd (cat 0 (fun _ => 0) t.B) row (t.F col) k) = Value.int .i64 (upd t.B row (t.F col) k); congr 1; by_cases e : k = row; rw [e, upd_self, upd_self]; rw [upd_ne _ _ e, upd_ne _ _ e]; unfold cat; rw [if_neg (by omega), Int.sub_zero])
   replace hS := hS.recont 3 rfl (d := ints (piv t row col).F) (fun k k0 k1 => by unfold ints; show Value.int .i64 (upd (cat 0 (fun _ => 0) t.F) col (t.B row) k) = Value.int .i64 (upd t.F col (t.B row) k); congr 1; by_cases e : k = col; rw [e, upd_self, upd_self]; rw [upd_ne _ _ e, upd_ne _ _ e]; unfold cat; rw [if_neg (by omega), Int.sub_zero])
   have hsm1 := hsm.1 (by first | assumption | exact Classical.not_not.1 ‹_›)
   subst hnC
   exact ⟨_, _, _, _, piv t row col, 0, by rw [← hden]; rfl, .inr (.inr (.inr ⟨⟨hp, by omega, by omega, by omega, by omega, hnz⟩, fun a b a0 a1 b0 b1 => hdv a b a0 (by omega) b0 b1, piv_prp ⟨hp, by omega, by omega, by omega, by omega, hnz⟩ (fun a b a0 a1 b0 b1 => hsm1 a b a0 (by omega) b0 b1), rfl, rfl⟩)), hv2, hv4, hwC, hS.pk [2, 3, 5, 6]⟩
  refine zsk <| ztn <| zsq <| ?_
  refine zgcut (fun M w => ∃ (g3 : Nat) (v1 : Value) (v2 : Value) (v3 : Value) (v4 : Value), (Slh v2 t.nb) ∧ (Slh v4 t.nf) ∧ M = [(0, .agg #[.int .i64 t.vars, .int .i64 t.den, vB, vF, vC]), (1, .int .i64 row), (2, .int .i64 col), (3, .pointer (some ⟨g1, 0, none⟩)), (6, .pointer (some ⟨g2, 0, none⟩)), (7, .int .i64 0), (18, .agg #[.int .i64 t.vars, .int .i64 t.den, vB, vF, vC]), (19, B (TPrp t)), (20, B (¬ (TPrp t))), (21, .bool false), (22, .int .i64 row), (23, B (row < 0)), (24, B (row < 0)), (25, .bool false), (26, .int .i64 row), (27, .pointer (some ⟨g1, 2, none⟩)), (28, vB), (29, .int .i64 t.nb), (30, B (t.nb ≤ row)), (31, B (t.nb ≤ row)), (32, .bool false), (33, .int .i64 col), (34, B (col < 0)), (35, B (col < 0)), (36, .bool false), (37, .int .i64 col), (38, .pointer (some ⟨g1, 3, none⟩)), (39, vF), (40, .int .i64 t.nf), (41, B (t.nf ≤ col)), (42, B (t.nf ≤ col)), (43, .bool false), (44, .pointer (some ⟨g1, 4, none⟩)), (45, vC), (46, .int .i64 row), (47, .int .i64 (row + 1)), (48, .pointer (some (cad vC (row + 1)))), (49, (vv (row + 1))), (50, .int .i64 col), (51, .int .i64 (col + 1)), (52, .pointer (some (cad (vv (row + 1)) (col + 1)))), (53, .int .i64 ((t.C (row + 1)) (col + 1))), (54, B (((t.C (row + 1)) (col + 1)) = 0)), (55, B (((t.C (row + 1)) (col + 1)) = 0)), (57, .int .i64 row), (58, .int .i64 (row + 1)), (59, .int .i64 col), (60, .int .i64 (col + 1)), (8, .int .i64 (row + 1)), (9, .int .i64 (col + 1)), (10, .int .i64 1), (61, .pointer (some ⟨g1, 4, none⟩)), (62, vC), (63, .int .i64 (row + 1)), (64, .pointer (some (cad vC (row + 1)))), (65, (vv (row + 1))), (66, .int .i64 (col + 1)), (67, .pointer (some (cad (vv (row + 1)) (col + 1)))), (68, .int .i64 ((t.C (row + 1)) (col + 1))), (69, B (((t.C (row + 1)) (col + 1)) < 0)), (70, .pointer (some ⟨g1, 0, none⟩)), (71, .int .i64 t.vars), (72, .int .i64 1), (73, .pointer (some ⟨g1, 4, none⟩)), (74, vC), (75, .int .i64 (row + 1)), (76, .pointer (some (cad vC (row + 1)))), (77, (vv (row + 1))), (78, .int .i64 (col + 1)), (79, .pointer (some (cad (vv (row + 1)) (col + 1)))), (80, .int .i64 ((t.C (row + 1)) (col + 1))), (81, .int .i64 ((t.C (row + 1)) (col + 1))), (83, .pointer (some ⟨g1, 2, none⟩)), (84, vB), (87, .pointer (some ⟨g1, 3, none⟩)), (88, vF), (82, v1), (85, v2), (86, v3), (89, v4), (90, .agg #[.int .i64 t.vars, .int .i64 ((t.C (row + 1)) (col + 1)), v2, v4, .slice none 0 0]), (11, .pointer (some ⟨g3, 0, none⟩))] ∧ Sat w0 w [.blk g1 [.int .i64 t.vars, .int .i64 t.den, vB, vF, vC], .blk g2 [.int .i64 0, .int .i64 0, .slice none 0 0, .slice none 0 0, .slice none 0 0], .own v2 1 3 t.nb (ints (cat 0 (fun _ => 0) t.B)), .own v4 1 3 t.nf (ints (cat 0 (fun _ => 0) t.F)), .blk g3 [.int .i64 t.vars, .int .i64 ((t.C (row + 1)) (col + 1)), v2, v4, .slice none 0 0]]) ?_ ?_
  ·
   refine zdst [0, 1] [0, 1] 22 mx_ hS ?_; clear hS; intro w hS
   refine zdv 0 (fun _ => (xfb 0 fd_175_0)) ?_
   refine zdla 1 (fun w hS => (xlb 0 pl_3 hS)) ?_
   refine zdv 2 (fun _ => xmv) ?_
   refine zdv 3 (fun _ => (xfb 4 fd_175_4)) ?_
   refine zdla 4 (fun w hS => (xlb 0 pl_27 hS)) ?_
   refine zdv 5 (fun _ => xmv) ?_
   refine zdv 6 (fun _ => (xix (kk := row + 1) sl_27 hT.C.row.slh)) ?_
   refine zdla 7 (fun w hS => (xlr (u := (vv (row + 1))) pl_22 (hT.C.row.below hS.below))) ?_
   refine zdv 8 (fun _ => xmv) ?_
   refine zdv 9 (fun _ => (xix (kk := col + 1) sl_22 (hT.C.p (row + 1) (by omega) (by omega)).slh)) ?_
   refine zdla 10 (fun w hS => (xlr (u := .int .i64 ((t.C (row + 1)) (col + 1))) pl_3 ((hT.C.p (row + 1) (by omega) (by omega)).below hS.below))) ?_
   refine zdv 11 (fun _ => (xmul (r := ((t.C (row + 1)) (col + 1))))) ?_
   refine zdv 13 (fun _ => (xfb 2 fd_175_2)) ?_
   refine zdla 14 (fun w hS => (xlb 0 pl_22 hS)) ?_
   refine zdv 17 (fun _ => (xfb 3 fd_175_3)) ?_
   refine zdla 18 (fun w hS => (xlb 0 pl_22 hS)) ?_
   refine zdfk (r := [12, 16, 21]) ((zdn1 ?_ (zdn1 ?_ (zdn1 ?_ zdn0))))
   ·
    refine zka (xl0 (c := ints (fun _ => 0)) sl_22 hS) ?_; rintro v1 w ⟨hS, hv1⟩
    replace hS := hS.n3
    refine ⟨⟨fun _ => hS.pk [0, 1], hS.pk [0, 1]⟩, ?_⟩
    refine zdfk (r := [15, 16, 21]) ((zdn1 ?_ (zdn1 ?_ (zdn1 ?_ zdn0))))
    ·
     refine zka (xap 2 (r := t.nb) (f := ints (cat 0 (fun _ => 0) t.B)) sl_22 el_3 hS (hT.B.below hS.below) (by exact cat_ints1 _ _ _)) ?_; rintro v2 w ⟨hS, hv2⟩
     replace hS := hS.n3
     refine ⟨⟨fun _ => hS.pk [0, 1], hS.pk [0, 1]⟩, ?_⟩
     refine zdfk (r := [16, 21]) ((zdn1 ?_ (zdn1 ?_ zdn0)))
     ·
      refine zka (xl0 (c := ints (fun _ => 0)) sl_22 hS) ?_; rintro v3 w ⟨hS, hv3⟩
      replace hS := hS.n4
      refine ⟨⟨fun _ => hS.pk [0, 1], hS.pk [0, 1]⟩, ?_⟩
      refine zdfk (r := [19, 21]) ((zdn1 ?_ (zdn1 ?_ zdn0)))
      ·
       refine zka (xap 3 (r := t.nf) (f := ints (cat 0 (fun _ => 0) t.F)) sl_22 el_3 hS (hT.F.below hS.below) (by exact cat_ints1 _ _ _)) ?_; rintro v4 w ⟨hS, hv4⟩
       replace hS := hS.n4
       refine ⟨⟨fun _ => hS.pk [0, 1], hS.pk [0, 1]⟩, ?_⟩
       refine zdv 20 (fun _ => (xany (v := .agg #[.int .i64 t.vars, .int .i64 ((t.C (row + 1)) (col + 1)), v2, v4, .slice none 0 0]) (hr := by obtain ⟨_, _, _, _, rfl, _⟩ := hv2; obtain ⟨_, _, _, _, rfl, _⟩ := hv4; kernel_rfl))) ?_
       refine zda 21 (xal (cs := [_, _, _, _, _]) el_175 hS) ?_; rintro _ w ⟨g3, rfl, hS⟩
       replace hS := hS.n5
       refine ⟨⟨fun _ => hS.pk [0, 1], hS.pk [0, 1]⟩, ?_⟩
       refine zde 22 (xsw 4 st_175 hS (hd := (ones_cons rfl (ones_cons rfl (ones_cons hv2.one (ones_cons hv4.one (ones_cons rfl ones_nil))))))) ?_; clear hS; rintro w hS
       replace hS := hS.n5
       refine ⟨⟨fun h => absurd h (by decide), hS.pk [0, 1]⟩, ?_⟩
       refine zdd <| zgj ⟨g3, v1, v2, v3, v4, hv2, hv4, rfl, hS⟩
      refine zka (xal (cs := [_, _, _, _, _]) el_175 hS) ?_; rintro _ w ⟨g3, rfl, hS⟩
      replace hS := hS.n5
      refine ⟨⟨fun _ => hS.pk [0, 1], hS.pk [0, 1]⟩, ?_⟩
      refine zda 19 (xap 3 (r := t.nf) (f := ints (cat 0 (fun _ => 0) t.F)) sl_22 el_3 hS (hT.F.below hS.below) (by exact cat_ints1 _ _ _)) ?_; rintro v4 w ⟨hS, hv4⟩
      replace hS := hS.n5
      refine ⟨⟨fun _ => hS.pk [0, 1], hS.pk [0, 1]⟩, ?_⟩
      refine zdv 20 (fun _ => (xany (v := .agg #[.int .i64 t.vars, .int .i64 ((t.C (row + 1)) (col + 1)), v2, v4, .slice none 0 0]) (hr := by obtain ⟨_, _, _, _, rfl, _⟩ := hv2; obtain ⟨_, _, _, _, rfl, _⟩ := hv4; kernel_rfl))) ?_
      refine zde 22 (xsw 4 st_175 hS (hd := (ones_cons rfl (ones_cons rfl (ones_cons hv2.one (ones_cons hv4.one (ones_cons rfl ones_nil))))))) ?_; clear hS; rintro w hS
      replace hS := hS.n5
      refine ⟨⟨fun h => absurd h (by decide), hS.pk [0, 1]⟩, ?_⟩
      refine zdd <| zgj ⟨g3, v1, v2, v3, v4, hv2, hv4, rfl, hS⟩
     refine zka (xal (cs := [_, _, _, _, _]) el_175 hS) ?_; rintro _ w ⟨g3, rfl, hS⟩
     replace hS := hS.n4
     refine ⟨⟨fun _ => hS.pk [0, 1], hS.pk [0, 1]⟩, ?_⟩
     refine zda 16 (xl0 (c := ints (fun _ => 0)) sl_22 hS) ?_; rintro v3 w ⟨hS, hv3⟩
     replace hS := hS.n5
     refine ⟨⟨fun _ => hS.pk [0, 1], hS.pk [0, 1]⟩, ?_⟩
     refine zda 19 (xap 4 (r := t.nf) (f := ints (cat 0 (fun _ => 0) t.F)) sl_22 el_3 hS (hT.F.below hS.below) (by exact cat_ints1 _ _ _)) ?_; rintro v4 w ⟨hS, hv4⟩
     replace hS := hS.n5
     refine ⟨⟨fun _ => hS.pk [0, 1], hS.pk [0, 1]⟩, ?_⟩
     refine zdv 20 (fun _ => (xany (v := .agg #[.int .i64 t.vars, .int .i64 ((t.C (row + 1)) (col + 1)), v2, v4, .slice none 0 0]) (hr := by obtain ⟨_, _, _, _, rfl, _⟩ := hv2; obtain ⟨_, _, _, _, rfl, _⟩ := hv4; kernel_rfl))) ?_
     refine zde 22 (xsw 3 st_175 hS (hd := (ones_cons rfl (ones_cons rfl (ones_cons hv2.one (ones_cons hv4.one (ones_cons rfl ones_nil))))))) ?_; clear hS; rintro w hS
     replace hS := hS.n5
     refine ⟨⟨fun h => absurd h (by decide), hS.pk [0, 1]⟩, ?_⟩
     refine zdd <| zgj ⟨g3, v1, v2, v3, v4, hv2, hv4, rfl, hS.pk [0, 1, 2, 4, 3]⟩
    ·
     refine zka (xl0 (c := ints (fun _ => 0)) sl_22 hS) ?_; rintro v2 w ⟨hS, hv2⟩
     replace hS := hS.n4
     refine ⟨⟨fun _ => hS.pk [0, 1], hS.pk [0, 1]⟩, ?_⟩
     refine zdfk (r := [15, 21]) ((zdn1 ?_ (zdn1 ?_ zdn0)))
     ·
      refine zka (xap 2 (r := t.nb) (f := ints (cat 0 (fun _ => 0) t.B)) sl_22 el_3 hS (hT.B.below hS.below) (by exact cat_ints1 _ _ _)) ?_; rintro v3 w ⟨hS, hv3⟩
      replace hS := hS.n4
      refine ⟨⟨fun _ => hS.pk [0, 1], hS.pk [0, 1]⟩, ?_⟩
      refine zdfk (r := [19, 21]) ((zdn1 ?_ (zdn1 ?_ zdn0)))
      ·
       refine zka (xap 3 (r := t.nf) (f := ints (cat 0 (fun _ => 0) t.F)) sl_22 el_3 hS (hT.F.below hS.below) (by exact cat_ints1 _ _ _)) ?_; rintro v4 w ⟨hS, hv4⟩
       replace hS := hS.n4
       refine ⟨⟨fun _ => hS.pk [0, 1], hS.pk [0, 1]⟩, ?_⟩
       refine zdv 20 (fun _ => (xany (v := .agg #[.int .i64 t.vars, .int .i64 ((t.C (row + 1)) (col + 1)), v3, v4, .slice none 0 0]) (hr := by obtain ⟨_, _, _, _, rfl, _⟩ := hv3; obtain ⟨_, _, _, _, rfl, _⟩ := hv4; kernel_rfl))) ?_
       refine zda 21 (xal (cs := [_, _, _, _, _]) el_175 hS) ?_; rintro _ w ⟨g3, rfl, hS⟩
       replace hS := hS.n5
       refine ⟨⟨fun _ => hS.pk [0, 1], hS.pk [0, 1]⟩, ?_⟩
       refine zde 22 (xsw 4 st_175 hS (hd := (ones_cons rfl (ones_cons rfl (ones_cons hv3.one (ones_cons hv4.one (ones_cons rfl ones_nil))))))) ?_; clear hS; rintro w hS
       replace hS := hS.n5
       refine ⟨⟨fun h => absurd h (by decide), hS.pk [0, 1]⟩, ?_⟩
       refine zdd <| zgj ⟨g3, v1, v3, v2, v4, hv3, hv4, rfl, hS⟩
      refine zka (xal (cs := [_, _, _, _, _]) el_175 hS) ?_; rintro _ w ⟨g3, rfl, hS⟩
      replace hS := hS.n5
      refine ⟨⟨fun _ => hS.pk [0, 1], hS.pk [0, 1]⟩, ?_⟩
      refine zda 19 (xap 3 (r := t.nf) (f := ints (cat 0 (fun _ => 0) t.F)) sl_22 el_3 hS (hT.F.below hS.below) (by exact cat_ints1 _ _ _)) ?_; rintro v4 w ⟨hS, hv4⟩
      replace hS := hS.n5
      refine ⟨⟨fun _ => hS.pk [0, 1], hS.pk [0, 1]⟩, ?_⟩
      refine zdv 20 (fun _ => (xany (v := .agg #[.int .i64 t.vars, .int .i64 ((t.C (row + 1)) (col + 1)), v3, v4, .slice none 0 0]) (hr := by obtain ⟨_, _, _, _, rfl, _⟩ := hv3; obtain ⟨_, _, _, _, rfl, _⟩ := hv4; kernel_rfl))) ?_
      refine zde 22 (xsw 4 st_175 hS (hd := (ones_cons rfl (ones_cons rfl (ones_cons hv3.one (ones_cons hv4.one (ones_cons rfl ones_nil))))))) ?_; clear hS; rintro w hS
      replace hS := hS.n5
      refine ⟨⟨fun h => absurd h (by decide), hS.pk [0, 1]⟩, ?_⟩
      refine zdd <| zgj ⟨g3, v1, v3, v2, v4, hv3, hv4, rfl, hS⟩
     refine zka (xal (cs := [_, _, _, _, _]) el_175 hS) ?_; rintro _ w ⟨g3, rfl, hS⟩
     replace hS := hS.n5
     refine ⟨⟨fun _ => hS.pk [0, 1], hS.pk [0, 1]⟩, ?_⟩
     refine zda 15 (xap 2 (r := t.nb) (f := ints (cat 0 (fun _ => 0) t.B)) sl_22 el_3 hS (hT.B.below hS.below) (by exact cat_ints1 _ _ _)) ?_; rintro v3 w ⟨hS, hv3⟩
     replace hS := hS.n5
     refine ⟨⟨fun _ => hS.pk [0, 1], hS.pk [0, 1]⟩, ?_⟩
     refine zda 19 (xap 3 (r := t.nf) (f := ints (cat 0 (fun _ => 0) t.F)) sl_22 el_3 hS (hT.F.below hS.below) (by exact cat_ints1 _ _ _)) ?_; rintro v4 w ⟨hS, hv4⟩
     replace hS := hS.n5
     refine ⟨⟨fun _ => hS.pk [0, 1], hS.pk [0, 1]⟩, ?_⟩
     refine zdv 20 (fun _ => (xany (v := .agg #[.int .i64 t.vars, .int .i64 ((t.C (row + 1)) (col + 1)), v3, v4, .slice none 0 0]) (hr := by obtain ⟨_, _, _, _, rfl, _⟩ := hv3; obtain ⟨_, _, _, _, rfl, _⟩ := hv4; kernel_rfl))) ?_
     refine zde 22 (xsw 4 st_175 hS (hd := (ones_cons rfl (ones_cons rfl (ones_cons hv3.one (ones_cons hv4.one (ones_cons rfl ones_nil))))))) ?_; clear hS; rintro w hS
     replace hS := hS.n5
     refine ⟨⟨fun h => absurd h (by decide), hS.pk [0, 1]⟩, ?_⟩
     refine zdd <| zgj ⟨g3, v1, v3, v2, v4, hv3, hv4, rfl, hS⟩
    refine zka (xal (cs := [_, _, _, _, _]) el_175 hS) ?_; rintro _ w ⟨g3, rfl, hS⟩
    replace hS := hS.n4
    refine ⟨⟨fun _ => hS.pk [0, 1], hS.pk [0, 1]⟩, ?_⟩
    refine zdfk (r := [15, 16]) ((zdn1 ?_ (zdn1 ?_ zdn0)))
    ·
     refine zka (xap 2 (r := t.nb) (f := ints (cat 0 (fun _ => 0) t.B)) sl_22 el_3 hS (hT.B.below hS.below) (by exact cat_ints1 _ _ _)) ?_; rintro v2 w ⟨hS, hv2⟩
     replace hS := hS.n4
     refine ⟨⟨fun _ => hS.pk [0, 1], hS.pk [0, 1]⟩, ?_⟩
     refine zda 16 (xl0 (c := ints (fun _ => 0)) sl_22 hS) ?_; rintro v3 w ⟨hS, hv3⟩
     replace hS := hS.n5
     refine ⟨⟨fun _ => hS.pk [0, 1], hS.pk [0, 1]⟩, ?_⟩
     refine zda 19 (xap 4 (r := t.nf) (f := ints (cat 0 (fun _ => 0) t.F)) sl_22 el_3 hS (hT.F.below hS.below) (by exact cat_ints1 _ _ _)) ?_; rintro v4 w ⟨hS, hv4⟩
     replace hS := hS.n5
     refine ⟨⟨fun _ => hS.pk [0, 1], hS.pk [0, 1]⟩, ?_⟩
     refine zdv 20 (fun _ => (xany (v := .agg #[.int .i64 t.vars, .int .i64 ((t.C (row + 1)) (col + 1)), v2, v4, .slice none 0 0]) (hr := by obtain ⟨_, _, _, _, rfl, _⟩ := hv2; obtain ⟨_, _, _, _, rfl, _⟩ := hv4; kernel_rfl))) ?_
     refine zde 22 (xsw 3 st_175 hS (hd := (ones_cons rfl (ones_cons rfl (ones_cons hv2.one (ones_cons hv4.one (ones_cons rfl ones_nil))))))) ?_; clear hS; rintro w hS
     replace hS := hS.n5
     refine ⟨⟨fun h => absurd h (by decide), hS.pk [0, 1]⟩, ?_⟩
     refine zdd <| zgj ⟨g3, v1, v2, v3, v4, hv2, hv4, rfl, hS.pk [0, 1, 2, 4, 3]⟩
    refine zka (xl0 (c := ints (fun _ => 0)) sl_22 hS) ?_; rintro v2 w ⟨hS, hv2⟩
    replace hS := hS.n5
    refine ⟨⟨fun _ => hS.pk [0, 1], hS.pk [0, 1]⟩, ?_⟩
    refine zda 15 (xap 2 (r := t.nb) (f := ints (cat 0 (fun _ => 0) t.B)) sl_22 el_3 hS (hT.B.below hS.below) (by exact cat_ints1 _ _ _)) ?_; rintro v3 w ⟨hS, hv3⟩
    replace hS := hS.n5
    refine ⟨⟨fun _ => hS.pk [0, 1], hS.pk [0, 1]⟩, ?_⟩
    refine zda 19 (xap 4 (r := t.nf) (f := ints (cat 0 (fun _ => 0) t.F)) sl_22 el_3 hS (hT.F.below hS.below) (by exact cat_ints1 _ _ _)) ?_; rintro v4 w ⟨hS, hv4⟩
    replace hS := hS.n5
    refine ⟨⟨fun _ => hS.pk [0, 1], hS.pk [0, 1]⟩, ?_⟩
    refine zdv 20 (fun _ => (xany (v := .agg #[.int .i64 t.vars, .int .i64 ((t.C (row + 1)) (col + 1)), v3, v4, .slice none 0 0]) (hr := by obtain ⟨_, _, _, _, rfl, _⟩ := hv3; obtain ⟨_, _, _, _, rfl, _⟩ := hv4; kernel_rfl))) ?_
    refine zde 22 (xsw 3 st_175 hS (hd := (ones_cons rfl (ones_cons rfl (ones_cons hv3.one (ones_cons hv4.one (ones_cons rfl ones_nil))))))) ?_; clear hS; rintro w hS
    replace hS := hS.n5
    refine ⟨⟨fun h => absurd h (by decide), hS.pk [0, 1]⟩, ?_⟩
    refine zdd <| zgj ⟨g3, v1, v3, v2, v4, hv3, hv4, rfl, hS.pk [0, 1, 2, 4, 3]⟩
   ·
    refine zka (xl0 (c := ints (fun _ => 0)) sl_22 hS) ?_; rintro v1 w ⟨hS, hv1⟩
    replace hS := hS.n3
    refine ⟨⟨fun _ => hS.pk [0, 1], hS.pk [0, 1]⟩, ?_⟩
    refine zdfk (r := [12, 21]) ((zdn1 ?_ (zdn1 ?_ zdn0)))
    ·
     refine zka (xl0 (c := ints (fun _ => 0)) sl_22 hS) ?_; rintro v2 w ⟨hS, hv2⟩
     replace hS := hS.n4
     refine ⟨⟨fun _ => hS.pk [0, 1], hS.pk [0, 1]⟩, ?_⟩
     refine zdfk (r := [15, 21]) ((zdn1 ?_ (zdn1 ?_ zdn0)))
     ·
      refine zka (xap 3 (r := t.nb) (f := ints (cat 0 (fun _ => 0) t.B)) sl_22 el_3 hS (hT.B.below hS.below) (by exact cat_ints1 _ _ _)) ?_; rintro v3 w ⟨hS, hv3⟩
      replace hS := hS.n4
      refine ⟨⟨fun _ => hS.pk [0, 1], hS.pk [0, 1]⟩, ?_⟩
      refine zdfk (r := [19, 21]) ((zdn1 ?_ (zdn1 ?_ zdn0)))
      ·
       refine zka (xap 2 (r := t.nf) (f := ints (cat 0 (fun _ => 0) t.F)) sl_22 el_3 hS (hT.F.below hS.below) (by exact cat_ints1 _ _ _)) ?_; rintro v4 w ⟨hS, hv4⟩
       replace hS := hS.n4
       refine ⟨⟨fun _ => hS.pk [0, 1], hS.pk [0, 1]⟩, ?_⟩
       refine zdv 20 (fun _ => (xany (v := .agg #[.int .i64 t.vars, .int .i64 ((t.C (row + 1)) (col + 1)), v3, v4, .slice none 0 0]) (hr := by obtain ⟨_, _, _, _, rfl, _⟩ := hv3; obtain ⟨_, _, _, _, rfl, _⟩ := hv4; kernel_rfl))) ?_
       refine zda 21 (xal (cs := [_, _, _, _, _]) el_175 hS) ?_; rintro _ w ⟨g3, rfl, hS⟩
       replace hS := hS.n5
       refine ⟨⟨fun _ => hS.pk [0, 1], hS.pk [0, 1]⟩, ?_⟩
       refine zde 22 (xsw 4 st_175 hS (hd := (ones_cons rfl (ones_cons rfl (ones_cons hv3.one (ones_cons hv4.one (ones_cons rfl ones_nil))))))) ?_; clear hS; rintro w hS
       replace hS := hS.n5
       refine ⟨⟨fun h => absurd h (by decide), hS.pk [0, 1]⟩, ?_⟩
       refine zdd <| zgj ⟨g3, v2, v3, v1, v4, hv3, hv4, rfl, hS.pk [0, 1, 3, 2, 4]⟩
      refine zka (xal (cs := [_, _, _, _, _]) el_175 hS) ?_; rintro _ w ⟨g3, rfl, hS⟩
      replace hS := hS.n5
      refine ⟨⟨fun _ => hS.pk [0, 1], hS.pk [0, 1]⟩, ?_⟩
      refine zda 19 (xap 2 (r := t.nf) (f := ints (cat 0 (fun _ => 0) t.F)) sl_22 el_3 hS (hT.F.below hS.below) (by exact cat_ints1 _ _ _)) ?_; rintro v4 w ⟨hS, hv4⟩
      replace hS := hS.n5
      refine ⟨⟨fun _ => hS.pk [0, 1], hS.pk [0, 1]⟩, ?_⟩
      refine zdv 20 (fun _ => (xany (v := .agg #[.int .i64 t.vars, .int .i64 ((t.C (row + 1)) (col + 1)), v3, v4, .slice none 0 0]) (hr := by obtain ⟨_, _, _, _, rfl, _⟩ := hv3; obtain ⟨_, _, _, _, rfl, _⟩ := hv4; kernel_rfl))) ?_
      refine zde 22 (xsw 4 st_175 hS (hd := (ones_cons rfl (ones_cons rfl (ones_cons hv3.one (ones_cons hv4.one (ones_cons rfl ones_nil))))))) ?_; clear hS; rintro w hS
      replace hS := hS.n5
      refine ⟨⟨fun h => absurd h (by decide), hS.pk [0, 1]⟩, ?_⟩
      refine zdd <| zgj ⟨g3, v2, v3, v1, v4, hv3, hv4, rfl, hS.pk [0, 1, 3, 2, 4]⟩
     refine zka (xal (cs := [_, _, _, _, _]) el_175 hS) ?_; rintro _ w ⟨g3, rfl, hS⟩
     replace hS := hS.n5
     refine ⟨⟨fun _ => hS.pk [0, 1], hS.pk [0, 1]⟩, ?_⟩
     refine zda 15 (xap 3 (r := t.nb) (f := ints (cat 0 (fun _ => 0) t.B)) sl_22 el_3 hS (hT.B.below hS.below) (by exact cat_ints1 _ _ _)) ?_; rintro v3 w ⟨hS, hv3⟩
     replace hS := hS.n5
     refine ⟨⟨fun _ => hS.pk [0, 1], hS.pk [0, 1]⟩, ?_⟩
     refine zda 19 (xap 2 (r := t.nf) (f := ints (cat 0 (fun _ => 0) t.F)) sl_22 el_3 hS (hT.F.below hS.below) (by exact cat_ints1 _ _ _)) ?_; rintro v4 w ⟨hS, hv4⟩
     replace hS := hS.n5
     refine ⟨⟨fun _ => hS.pk [0, 1], hS.pk [0, 1]⟩, ?_⟩
     refine zdv 20 (fun _ => (xany (v := .agg #[.int .i64 t.vars, .int .i64 ((t.C (row + 1)) (col + 1)), v3, v4, .slice none 0 0]) (hr := by obtain ⟨_, _, _, _, rfl, _⟩ := hv3; obtain ⟨_, _, _, _, rfl, _⟩ := hv4; kernel_rfl))) ?_
     refine zde 22 (xsw 4 st_175 hS (hd := (ones_cons rfl (ones_cons rfl (ones_cons hv3.one (ones_cons hv4.one (ones_cons rfl ones_nil))))))) ?_; clear hS; rintro w hS
     replace hS := hS.n5
     refine ⟨⟨fun h => absurd h (by decide), hS.pk [0, 1]⟩, ?_⟩
     refine zdd <| zgj ⟨g3, v2, v3, v1, v4, hv3, hv4, rfl, hS.pk [0, 1, 3, 2, 4]⟩
    refine zka (xal (cs := [_, _, _, _, _]) el_175 hS) ?_; rintro _ w ⟨g3, rfl, hS⟩
    replace hS := hS.n4
    refine ⟨⟨fun _ => hS.pk [0, 1], hS.pk [0, 1]⟩, ?_⟩
    refine zda 12 (xl0 (c := ints (fun _ => 0)) sl_22 hS) ?_; rintro v2 w ⟨hS, hv2⟩
    replace hS := hS.n5
    refine ⟨⟨fun _ => hS.pk [0, 1], hS.pk [0, 1]⟩, ?_⟩
    refine zda 15 (xap 4 (r := t.nb) (f := ints (cat 0 (fun _ => 0) t.B)) sl_22 el_3 hS (hT.B.below hS.below) (by exact cat_ints1 _ _ _)) ?_; rintro v3 w ⟨hS, hv3⟩
    replace hS := hS.n5
    refine ⟨⟨fun _ => hS.pk [0, 1], hS.pk [0, 1]⟩, ?_⟩
    refine zda 19 (xap 2 (r := t.nf) (f := ints (cat 0 (fun _ => 0) t.F)) sl_22 el_3 hS (hT.F.below hS.below) (by exact cat_ints1 _ _ _)) ?_; rintro v4 w ⟨hS, hv4⟩
    replace hS := hS.n5
    refine ⟨⟨fun _ => hS.pk [0, 1], hS.pk [0, 1]⟩, ?_⟩
    refine zdv 20 (fun _ => (xany (v := .agg #[.int .i64 t.vars, .int .i64 ((t.C (row + 1)) (col + 1)), v3, v4, .slice none 0 0]) (hr := by obtain ⟨_, _, _, _, rfl, _⟩ := hv3; obtain ⟨_, _, _, _, rfl, _⟩ := hv4; kernel_rfl))) ?_
    refine zde 22 (xsw 3 st_175 hS (hd := (ones_cons rfl (ones_cons rfl (ones_cons hv3.one (ones_cons hv4.one (ones_cons rfl ones_nil))))))) ?_; clear hS; rintro w hS
    replace hS := hS.n5
    refine ⟨⟨fun h => absurd h (by decide), hS.pk [0, 1]⟩, ?_⟩
    refine zdd <| zgj ⟨g3, v2, v3, v1, v4, hv3, hv4, rfl, hS.pk [0, 1, 4, 2, 3]⟩
   refine zka (xal (cs := [_, _, _, _, _]) el_175 hS) ?_; rintro _ w ⟨g3, rfl, hS⟩
   replace hS := hS.n3
   refine ⟨⟨fun _ => hS.pk [0, 1], hS.pk [0, 1]⟩, ?_⟩
   refine zdfk (r := [12, 16]) ((zdn1 ?_ (zdn1 ?_ zdn0)))
   ·
    refine zka (xl0 (c := ints (fun _ => 0)) sl_22 hS) ?_; rintro v1 w ⟨hS, hv1⟩
    replace hS := hS.n4
    refine ⟨⟨fun _ => hS.pk [0, 1], hS.pk [0, 1]⟩, ?_⟩
    refine zdfk (r := [15, 16]) ((zdn1 ?_ (zdn1 ?_ zdn0)))
    ·
     refine zka (xap 3 (r := t.nb) (f := ints (cat 0 (fun _ => 0) t.B)) sl_22 el_3 hS (hT.B.below hS.below) (by exact cat_ints1 _ _ _)) ?_; rintro v2 w ⟨hS, hv2⟩
     replace hS := hS.n4
     refine ⟨⟨fun _ => hS.pk [0, 1], hS.pk [0, 1]⟩, ?_⟩
     refine zda 16 (xl0 (c := ints (fun _ => 0)) sl_22 hS) ?_; rintro v3 w ⟨hS, hv3⟩
     replace hS := hS.n5
     refine ⟨⟨fun _ => hS.pk [0, 1], hS.pk [0, 1]⟩, ?_⟩
     refine zda 19 (xap 4 (r := t.nf) (f := ints (cat 0 (fun _ => 0) t.F)) sl_22 el_3 hS (hT.F.below hS.below) (by exact cat_ints1 _ _ _)) ?_; rintro v4 w ⟨hS, hv4⟩
     replace hS := hS.n5
     refine ⟨⟨fun _ => hS.pk [0, 1], hS.pk [0, 1]⟩, ?_⟩
     refine zdv 20 (fun _ => (xany (v := .agg #[.int .i64 t.vars, .int .i64 ((t.C (row + 1)) (col + 1)), v2, v4, .slice none 0 0]) (hr := by obtain ⟨_, _, _, _, rfl, _⟩ := hv2; obtain ⟨_, _, _, _, rfl, _⟩ := hv4; kernel_rfl))) ?_
     refine zde 22 (xsw 2 st_175 hS (hd := (ones_cons rfl (ones_cons rfl (ones_cons hv2.one (ones_cons hv4.one (ones_cons rfl ones_nil))))))) ?_; clear hS; rintro w hS
     replace hS := hS.n5
     refine ⟨⟨fun h => absurd h (by decide), hS.pk [0, 1]⟩, ?_⟩
     refine zdd <| zgj ⟨g3, v1, v2, v3, v4, hv2, hv4, rfl, hS.pk [0, 1, 3, 4, 2]⟩
    refine zka (xl0 (c := ints (fun _ => 0)) sl_22 hS) ?_; rintro v2 w ⟨hS, hv2⟩
    replace hS := hS.n5
    refine ⟨⟨fun _ => hS.pk [0, 1], hS.pk [0, 1]⟩, ?_⟩
    refine zda 15 (xap 3 (r := t.nb) (f := ints (cat 0 (fun _ => 0) t.B)) sl_22 el_3 hS (hT.B.below hS.below) (by exact cat_ints1 _ _ _)) ?_; rintro v3 w ⟨hS, hv3⟩
    replace hS := hS.n5
    refine ⟨⟨fun _ => hS.pk [0, 1], hS.pk [0, 1]⟩, ?_⟩
    refine zda 19 (xap 4 (r := t.nf) (f := ints (cat 0 (fun _ => 0) t.F)) sl_22 el_3 hS (hT.F.below hS.below) (by exact cat_ints1 _ _ _)) ?_; rintro v4 w ⟨hS, hv4⟩
    replace hS := hS.n5
    refine ⟨⟨fun _ => hS.pk [0, 1], hS.pk [0, 1]⟩, ?_⟩
    refine zdv 20 (fun _ => (xany (v := .agg #[.int .i64 t.vars, .int .i64 ((t.C (row + 1)) (col + 1)), v3, v4, .slice none 0 0]) (hr := by obtain ⟨_, _, _, _, rfl, _⟩ := hv3; obtain ⟨_, _, _, _, rfl, _⟩ := hv4; kernel_rfl))) ?_
    refine zde 22 (xsw 2 st_175 hS (hd := (ones_cons rfl (ones_cons rfl (ones_cons hv3.one (ones_cons hv4.one (ones_cons rfl ones_nil))))))) ?_; clear hS; rintro w hS
    replace hS := hS.n5
    refine ⟨⟨fun h => absurd h (by decide), hS.pk [0, 1]⟩, ?_⟩
    refine zdd <| zgj ⟨g3, v1, v3, v2, v4, hv3, hv4, rfl, hS.pk [0, 1, 3, 4, 2]⟩
   refine zka (xl0 (c := ints (fun _ => 0)) sl_22 hS) ?_; rintro v1 w ⟨hS, hv1⟩
   replace hS := hS.n4
   refine ⟨⟨fun _ => hS.pk [0, 1], hS.pk [0, 1]⟩, ?_⟩
   refine zda 12 (xl0 (c := ints (fun _ => 0)) sl_22 hS) ?_; rintro v2 w ⟨hS, hv2⟩
   replace hS := hS.n5
   refine ⟨⟨fun _ => hS.pk [0, 1], hS.pk [0, 1]⟩, ?_⟩
   refine zda 15 (xap 4 (r := t.nb) (f := ints (cat 0 (fun _ => 0) t.B)) sl_22 el_3 hS (hT.B.below hS.below) (by exact cat_ints1 _ _ _)) ?_; rintro v3 w ⟨hS, hv3⟩
   replace hS := hS.n5
   refine ⟨⟨fun _ => hS.pk [0, 1], hS.pk [0, 1]⟩, ?_⟩
   refine zda 19 (xap 3 (r := t.nf) (f := ints (cat 0 (fun _ => 0) t.F)) sl_22 el_3 hS (hT.F.below hS.below) (by exact cat_ints1 _ _ _)) ?_; rintro v4 w ⟨hS, hv4⟩
   replace hS := hS.n5
   refine ⟨⟨fun _ => hS.pk [0, 1], hS.pk [0, 1]⟩, ?_⟩
   refine zdv 20 (fun _ => (xany (v := .agg #[.int .i64 t.vars, .int .i64 ((t.C (row + 1)) (col + 1)), v3, v4, .slice none 0 0]) (hr := by obtain ⟨_, _, _, _, rfl, _⟩ := hv3; obtain ⟨_, _, _, _, rfl, _⟩ := hv4; kernel_rfl))) ?_
   refine zde 22 (xsw 2 st_175 hS (hd := (ones_cons rfl (ones_cons rfl (ones_cons hv3.one (ones_cons hv4.one (ones_cons rfl ones_nil))))))) ?_; clear hS; rintro w hS
   replace hS := hS.n5
   refine ⟨⟨fun h => absurd h (by decide), hS.pk [0, 1]⟩, ?_⟩
   refine zdd <| zgj ⟨g3, v2, v3, v1, v4, hv3, hv4, rfl, hS.pk [0, 1, 4, 3, 2]⟩
  clear hS w; rintro M w ⟨g3, v1, v2, v3, v4, hv2, hv4, rfl, hS⟩
  refine ztn <| zsq ?_
  refine zdst [0, 1, 2, 3, 4] [0, 1, 4] 17 mx_ hS ?_; clear hS; intro w hS
  refine zdv 0 (fun _ => (xfb 2 fd_175_2)) ?_
  have hsg : sg (t.C (row + 1) (col + 1)) = 1 := by unfold sg; rw [if_neg (by omega)]
  refine zdla 1 (fun w hS => (xlb 2 pl_22 hS)) ?_
  refine zdv 2 (fun _ => xmv) ?_
  refine zdv 3 (fun _ => (xfb 3 fd_175_3)) ?_
  refine zdla 4 (fun w hS => (xlb 2 pl_22 hS)) ?_
  refine zdv 5 (fun _ => xmv) ?_
  refine zdv 6 (fun _ => (xfb 3 fd_175_3)) ?_
  refine zdla 7 (fun w hS => (xlb 0 pl_22 hS)) ?_
  refine zdv 8 (fun _ => xmv) ?_
  refine zdv 9 (fun _ => (xix (kk := col) sl_22 hT.F.slh)) ?_
  refine zdla 10 (fun w hS => (xlr (u := .int .i64 (t.F col)) pl_3 (hT.F.below hS.below))) ?_
  refine zdv 11 (fun _ => (xfb 2 fd_175_2)) ?_
  refine zdla 12 (fun w hS => (xlb 0 pl_22 hS)) ?_
  refine zdv 13 (fun _ => xmv) ?_
  refine zdv 14 (fun _ => (xix (kk := row) sl_22 hT.B.slh)) ?_
  refine zdla 15 (fun w hS => (xlr (u := .int .i64 (t.B row)) pl_3 (hT.B.below hS.below))) ?_
  refine zdv 16 (fun _ => (xix (kk := row) sl_22 hv2)) ?_
  refine zde 17 (xso 2 pl_3 hS (upd_ints _ _ _)) ?_; clear hS; rintro w hS
  replace hS := hS.n5
  refine ⟨⟨fun h => absurd h (by decide), hS.pk [0, 1, 4]⟩, ?_⟩
  refine zdv 18 (fun _ => (xix (kk := col) sl_22 hv4)) ?_
  refine zde 19 (xso 3 pl_3 hS (upd_ints _ _ _)) ?_; clear hS; rintro w hS
  replace hS := hS.n5
  refine ⟨⟨fun h => absurd h (by decide), hS.pk [0, 1, 4]⟩, ?_⟩
  refine zdd <| ztn <| zsr ?_
  refine zlv xas ?_
  refine zlas 12 (u := B (True)) (B_true trivial).symm ?_
  refine zlt <| zsq <| zsr ?_
  refine zlv xas ?_
  refine zlt <| zbk ?_
  replace hS := hS.addnil 1 22 (fun _ => Value.slice none 0 0)
  replace hS := hS.n6
  replace hS := hS.addrows 3 (fun _ => Value.slice none 0 0) t.ln ((piv t row col).C)
  replace hS := hS.n7
  replace hS := hS.n7
  have hrs0 := fun k (k0 : 0 ≤ k) (k1 : k < 0) => hS.slhIn 6 rfl k0 k1
  refine zlp (fun mm M w => ∃ (sm : Prop) (nC : Int) (wv : Int → Value) (i : Int) (wC : Value), mm = ((t.nc - i).toNat) ∧ (0 ≤ i) ∧ (i ≤ t.nc) ∧ (nC = i) ∧ (sm ↔ (∀ a b, 0 ≤ a → a < i → 0 ≤ b → b ≤ t.nf → -1073741824 ≤ pcell t (row + 1) (col + 1) a b ∧ pcell t (row + 1) (col + 1) a b ≤ 1073741824)) ∧ (∀ a b, 0 ≤ a → a < i → 0 ≤ b → b ≤ t.nf → divs t (row + 1) (col + 1) a b) ∧ (Slh wC nC) ∧ M = [(3, .pointer (some ⟨g1, 0, none⟩)), (6, .pointer (some ⟨g2, 0, none⟩)), (8, .int .i64 (row + 1)), (9, .int .i64 (col + 1)), (10, .int .i64 1), (11, .pointer (some ⟨g3, 0, none⟩)), (12, B (sm)), (13, .int .i64 i)] ∧ Sat w0 w [.blk g1 [.int .i64 t.vars, .int .i64 t.den, vB, vF, vC], .blk g2 [.int .i64 0, .int .i64 0, .slice none 0 0, .slice none 0 0, .slice none 0 0], .own v2 1 3 t.nb (ints (upd (cat 0 (fun _ => 0) t.B) row (t.F col))), .own v4 1 3 t.nf (ints (upd (cat 0 (fun _ => 0) t.F) col (t.B row))), .blk g3 [.int .i64 t.vars, .int .i64 ((t.C (row + 1)) (col + 1)), v2, v4, wC], .own wC 1 22 nC wv, .sem (Frame.rows 3 nC wv t.ln ((piv t row col).C))]) ⟨True, 0, (fun _ => Value.slice none 0 0), 0, (.slice none 0 0), rfl, (by omega), (by omega), (by omega), ?_, ?_, ?_, rfl, hS⟩ ?_
  ·
   exact ⟨fun _ a b a0 a1 => by omega, fun _ => trivial⟩
  ·
   intro a b a0 a1; omega
  ·
   exact slh_nil
  clear hS w
  rintro mm M w ⟨sm, nC, wv, i, wC, rfl, h0, h1, hnC, hsm, hdv, hwC, rfl, hS⟩
  have hrs3 := fun k (k0 : 0 ≤ k) (k1 : k < nC) => hS.slhIn 6 rfl k0 k1
  refine zsq <| zsr ?_
  refine zlv xmv ?_
  refine zlv (xfb 4 fd_175_4) ?_
  refine zlv (xlb 0 pl_27 hS) ?_
  refine zlv (xln sl_27 hT.C.row.slh) ?_
  refine zlv xlss ?_
  refine zlt ?_
  refine zcif ?_ ?_ <;> intro hc
  ·
   refine zsk <| ztn <| zsq <| zbk <| zsr ?_
   refine zlv xas ?_
   refine zlt <| zsq <| zsr ?_
   refine zlv xas ?_
   refine zlt <| zbk ?_
   replace hS := hS.addnil 1 3 (ints (fun _ => 0))
   replace hS := hS.n8
   refine zlp (fun mm M w => ∃ (sn : Prop) (nl : Int) (j : Int) (wl : Value) (fl : Int → Int), mm = ((t.nf + 1 - j).toNat) ∧ (0 ≤ j) ∧ (j ≤ t.nf + 1) ∧ (nl = j) ∧ (sn ↔ ((∀ a b, 0 ≤ a → a < i → 0 ≤ b → b ≤ t.nf → -1073741824 ≤ pcell t (row + 1) (col + 1) a b ∧ pcell t (row + 1) (col + 1) a b ≤ 1073741824) ∧ ∀ b, 0 ≤ b → b < j → -1073741824 ≤ pcell t (row + 1) (col + 1) i b ∧ pcell t (row + 1) (col + 1) i b ≤ 1073741824)) ∧ (∀ b, 0 ≤ b → b < j → divs t (row + 1) (col + 1) i b) ∧ (∀ b, 0 ≤ b → b < j → fl b = (piv t row col).C i b) ∧ (Slh wl nl) ∧ M = [(3, .pointer (some ⟨g1, 0, none⟩)), (6, .pointer (some ⟨g2, 0, none⟩)), (8, .int .i64 (row + 1)), (9, .int .i64 (col + 1)), (10, .int .i64 1), (11, .pointer (some ⟨g3, 0, none⟩)), (12, B (sn)), (13, .int .i64 i), (14, wl), (15, .int .i64 j)] ∧ Sat w0 w [.blk g1 [.int .i64 t.vars, .int .i64 t.den, vB, vF, vC], .blk g2 [.int .i64 0, .int .i64 0, .slice none 0 0, .slice none 0 0, .slice none 0 0], .own v2 1 3 t.nb (ints (upd (cat 0 (fun _ => 0) t.B) row (t.F col))), .own v4 1 3 t.nf (ints (upd (cat 0 (fun _ => 0) t.F) col (t.B row))), .blk g3 [.int .i64 t.vars, .int .i64 ((t.C (row + 1)) (col + 1)), v2, v4, wC], .own wC 1 22 nC wv, .sem (Frame.rows 3 nC wv t.ln ((piv t row col).C)), .own wl 1 3 nl (ints fl)]) ⟨sm, 0, 0, (.slice none 0 0), (fun _ => 0), rfl, (by omega), (by omega), (by omega), ?_, ?_, ?_, ?_, rfl, hS⟩ ?_
   ·
    exact ⟨fun h => ⟨hsm.1 h, fun b b0 b1 => by omega⟩, fun h => hsm.2 h.1⟩
   ·
    intro b b0 b1; omega
   ·
    intro b b0 b1; omega
   ·
    exact slh_nil
   clear hS w
   rintro mm M w ⟨sn, nl, j, wl, fl, rfl, j0, j1, hnl, hsn, hdr, hfl, hwl, rfl, hS⟩
   refine zsq <| zsr ?_
   refine zlv xmv ?_
   refine zlv (xfb 4 fd_175_4) ?_
   refine zlv (xlb 0 pl_27 hS) ?_
   have hli := hp.len (i := i) (by omega) (by omega)
   refine zlv xmv ?_
   refine zlv (xix (kk := i) sl_27 hT.C.row.slh) ?_
   refine zlv (xlr (u := (vv i)) pl_22 (hT.C.row.below hS.below)) ?_
   refine zlv (xln sl_22 (hT.C.p i (by omega) (by omega)).slh) ?_
   refine zlv xlss ?_
   refine zlt ?_
   refine zcif ?_ ?_ <;> intro hc
   ·
    refine zsk <| ztn <| zsq <| zbk <| zsr ?_
    refine zlv (xls 0 st_175 hS) ?_
    refine zs4 ?_
    refine zlc (xc0 cl_178) (c_cell (t := t) (i := i) (j := j) (r := (row + 1)) (s := (col + 1)) w (hT.below hS.below) hp (by omega) (by omega) (by omega) (by omega) (by omega) (by omega) (by omega) (by omega)) ?_; rintro _ w ⟨nn1, _, rfl, hnn1, rfl, hS'⟩
    replace hS := hS.cmp hS'; clear hS'
    refine zs2 ?_
    have hpcb := pcell_bd hp (r := row + 1) (s := col + 1) (i := i) (j := j) (by omega) (by omega) (by omega) (by omega) (by omega) (by omega) (by omega) (by omega); rw [← hnn1] at hpcb
    refine zs3 ?_
    refine zlt <| zsq <| zsr ?_
    refine zs2 ?_
    refine zlt ?_
    refine zcif ?_ ?_ <;> intro hc
    ·
     refine zsr ?_
     refine zlv (xany (v := .agg #[.int .i64 0, .int .i64 0, .slice none 0 0, .slice none 0 0, .slice none 0 0])) ?_
     refine zle (xsw 1 st_175 hS) ?_; clear hS; rintro w hS
     replace hS := hS.n8
     refine zlv xas ?_
     refine zlt <| zrt <| ztr <| zbr <| ztr <| ztr <| zbr <| ztr <| zbr <| ztr <| ztr <| zbr <| ztr <| zfct 1 st_175 hS ⟨_, rfl, ?_⟩
     exact ⟨_, _, _, fun _ => undef, Tb.zero, 4, rfl, .inr (.inl ⟨⟨hp, by omega, by omega, by omega, by omega, hnz⟩, fun hd => absurd (hd i j (by omega) (by omega) (by omega) (by omega)) ‹_›, rfl, rfl⟩), slh_nil, slh_nil, slh_nil, ((((hS.sub (.cons _ (.cons _ (.cons _ (.cons _ (.cons _ (.cons _ (.cons _ (.cons _ .slnil))))))))).addnil 1 3 (ints Tb.zero.B)).addnil 1 3 (ints Tb.zero.F)).addnil 1 22 (fun _ => undef)).addrows 3 (fun _ => undef) Tb.zero.ln Tb.zero.C⟩
    refine zsk <| ztn <| zsr ?_
    refine zs2 ?_
    refine zlb 139 ?_ ?_ <;> intro hc
    ·
     refine zs4 ?_
     refine zlb 143 ?_ ?_ <;> intro hc
     ·
      refine zs4 ?_
      refine zlt <| zrg ?_
      refine zs3 ?_
      refine zlv (xmul (r := nn1)) ?_
      refine zla (xli (n := 1) (len := 1) (pv := [(0, .int .i64 nn1)]) (cs := [.int .i64 nn1]) (c := ints (fun _ => nn1)) sl_22 el_3 hS) ?_; rintro v5 w ⟨hS, hv5⟩
      replace hS := hS.n9
      refine zla (xap 7 (r := nl + 1) sl_22 el_3 hS (hS.rowN 8 rfl) (cat_snoc _ _ _)) ?_; rintro v6 w ⟨hS, hv6⟩
      replace hS := hS.n9
      refine zlv xas ?_
      refine zln <| zbn <| ztn <| zrg ?_
      refine zlv xmv ?_
      refine zlv (xadd (r := j + 1)) ?_
      refine zlv xas ?_
      refine zln <| zlq ⟨nn1 ≤ 1073741824, nl + 1, j + 1, v6, (snoc fl nl nn1), rfl, (by omega), (by omega), (by omega), ?_, ?_, ?_, ?_, rfl, hS.pk [0, 1, 2, 3, 4, 5, 6, 7]⟩
      ·
       constructor
       · intro hx
         first
         | exact hx.elim
         | exact ⟨(hsn.1 (by assumption)).1, fun b b0 b1 => by
           by_cases e : b = j
           · rw [e]; omega
           · exact (hsn.1 (by assumption)).2 b b0 (by omega)⟩
       · rintro ⟨h1, h2⟩
         have h3 := h2 j j0 (by omega)
         first
         | omega
         | exact absurd (hsn.2 ⟨h1, fun b b0 b1 => h2 b b0 (by omega)⟩) (by assumption)
      ·
       have hdq : divs t (row + 1) (col + 1) i j := by first | assumption | exact Classical.not_not.1 ‹_›
       intro b b0 b1
       by_cases e : b = j
       · rw [e]; exact hdq
       · exact hdr b b0 (by omega)
      ·
       intro b b0 b1; by_cases e : b < nl
       · rw [snoc_lt e]; exact hfl b b0 (by omega)
       · obtain rfl : b = j := by omega
         rw [snoc_at e, piv_C, hsg, ← hnn1]; omega
      ·
       exact hv6
     iterate 2 refine zlo ?_
     refine zs2 ?_
     refine zlas 12 (u := B (False)) (B_false not_false).symm ?_
     refine zlt <| zrg ?_
     refine zs3 ?_
     refine zlv (xmul (r := nn1)) ?_
     refine zla (xli (n := 1) (len := 1) (pv := [(0, .int .i64 nn1)]) (cs := [.int .i64 nn1]) (c := ints (fun _ => nn1)) sl_22 el_3 hS) ?_; rintro v7 w ⟨hS, hv7⟩
     replace hS := hS.n9
     refine zla (xap 7 (r := nl + 1) sl_22 el_3 hS (hS.rowN 8 rfl) (cat_snoc _ _ _)) ?_; rintro v8 w ⟨hS, hv8⟩
     replace hS := hS.n9
     refine zlv xas ?_
     refine zln <| zbn <| ztn <| zrg ?_
     refine zlv xmv ?_
     refine zlv (xadd (r := j + 1)) ?_
     refine zlv xas ?_
     refine zln <| zlq ⟨False, nl + 1, j + 1, v8, (snoc fl nl nn1), rfl, (by omega), (by omega), (by omega), ?_, ?_, ?_, ?_, rfl, hS.pk [0, 1, 2, 3, 4, 5, 6, 7]⟩
     ·
      constructor
      · intro hx
        first
        | exact hx.elim
        | exact ⟨(hsn.1 (by assumption)).1, fun b b0 b1 => by
          by_cases e : b = j
          · rw [e]; omega
          · exact (hsn.1 (by assumption)).2 b b0 (by omega)⟩
      · rintro ⟨h1, h2⟩
        have h3 := h2 j j0 (by omega)
        first
        | omega
        | exact absurd (hsn.2 ⟨h1, fun b b0 b1 => h2 b b0 (by omega)⟩) (by assumption)
     ·
      have hdq : divs t (row + 1) (col + 1) i j := by first | assumption | exact Classical.not_not.1 ‹_›
      intro b b0 b1
      by_cases e : b = j
      · rw [e]; exact hdq
      · exact hdr b b0 (by omega)
     ·
      intro b b0 b1; by_cases e : b < nl
      · rw [snoc_lt e]; exact hfl b b0 (by omega)
      · obtain rfl : b = j := by omega
        rw [snoc_at e, piv_C, hsg, ← hnn1]; omega
     ·
      exact hv8
    iterate 2 refine zlo ?_
    refine zs2 ?_
    iterate 2 refine zlo ?_
    refine zs2 ?_
    refine zlas 12 (u := B (False)) (B_false not_false).symm ?_
    refine zlt <| zrg ?_
    refine zs3 ?_
    refine zlv (xmul (r := nn1)) ?_
    refine zla (xli (n := 1) (len := 1) (pv := [(0, .int .i64 nn1)]) (cs := [.int .i64 nn1]) (c := ints (fun _ => nn1)) sl_22 el_3 hS) ?_; rintro v9 w ⟨hS, hv9⟩
    replace hS := hS.n9
    refine zla (xap 7 (r := nl + 1) sl_22 el_3 hS (hS.rowN 8 rfl) (cat_snoc _ _ _)) ?_; rintro v10 w ⟨hS, hv10⟩
    replace hS := hS.n9
    refine zlv xas ?_
    refine zln <| zbn <| ztn <| zrg ?_
    refine zlv xmv ?_
    refine zlv (xadd (r := j + 1)) ?_
    refine zlv xas ?_
    refine zln <| zlq ⟨False, nl + 1, j + 1, v10, (snoc fl nl nn1), rfl, (by omega), (by omega), (by omega), ?_, ?_, ?_, ?_, rfl, hS.pk [0, 1, 2, 3, 4, 5, 6, 7]⟩
    ·
     constructor
     · intro hx
       first
       | exact hx.elim
       | exact ⟨(hsn.1 (by assumption)).1, fun b b0 b1 => by
         by_cases e : b = j
         · rw [e]; omega
         · exact (hsn.1 (by assumption)).2 b b0 (by omega)⟩
     · rintro ⟨h1, h2⟩
       have h3 := h2 j j0 (by omega)
       first
       | omega
       | exact absurd (hsn.2 ⟨h1, fun b b0 b1 => h2 b b0 (by omega)⟩) (by assumption)
    ·
     have hdq : divs t (row + 1) (col + 1) i j := by first | assumption | exact Classical.not_not.1 ‹_›
     intro b b0 b1
     by_cases e : b = j
     · rw [e]; exact hdq
     · exact hdr b b0 (by omega)
    ·
     intro b b0 b1; by_cases e : b < nl
     · rw [snoc_lt e]; exact hfl b b0 (by omega)
     · obtain rfl : b = j := by omega
       rw [snoc_at e, piv_C, hsg, ← hnn1]; omega
    ·
     exact hv10
   refine zxt <| ztx <| ztx <| zbh <| ztn <| zrg ?_
   refine zlv (xfb 4 fd_175_4) ?_
   refine zlv (xlb 4 pl_27 hS) ?_
   refine zlv xmv ?_
   refine zla (xli (n := 1) (len := 1) (pv := [(0, wl)]) (cs := [wl]) (c := (fun _ => wl)) sl_27 el_22 hS (hf := by obtain ⟨_, _, _, _, rfl, _⟩ := hwl; kernel_rfl)) ?_; rintro v11 w ⟨hS, hv11⟩
   replace hS := hS.n9
   refine zla (xap 5 (r := nC + 1) sl_27 el_22 hS (hS.rowN 8 rfl) (cat_gsn _ _ _) (h1 := fun _ _ _ => hwl.one)) ?_; rintro v12 w ⟨hS, hv12⟩
   replace hS := hS.n9
   replace hS := Sat.merge (l1 := [_, _, _, _, _, _]) (l2 := []) (l3 := [_]) hS (by omega)
   have hrs4 := fun k (k0 : 0 ≤ k) (k1 : k < nC + 1) => hS.slhIn 6 rfl k0 k1
   replace hS := hS.n8
   replace hS := hS.rerows (vv' := gsn wv nC wl) (ln' := t.ln) (f' := (piv t row col).C) 6 rfl (fun k k0 k1 => by
     by_cases e : k < i
     · exact ⟨rfl, gsn_lt (by omega), fun j _ _ => by rw [gsn_lt (by omega)]⟩
     · have hki : k = i := by omega
       refine ⟨rfl, ?_, fun b b0 b1 => ?_⟩
       · rw [gsn_at (by omega), hki]; omega
       · rw [gsn_at (by omega), hki]; exact hfl b b0 (by rw [gsn_at (by omega)] at b1; omega))
   replace hS := hS.n8
   have hrs4x := fun k (k0 : 0 ≤ k) (k1 : k < nC + 1) => hS.slhIn 6 rfl k0 k1
   refine zlv (xfb 4 fd_175_4) ?_
   refine zle (xsb 4 pl_27 hS (hv := hv12.one)) ?_; clear hS; rintro w hS
   replace hS := hS.n8
   refine zln <| zbn <| ztn <| zrg ?_
   refine zlv xmv ?_
   refine zlv (xadd (r := i + 1)) ?_
   refine zlv xas ?_
   refine zln <| zlq ⟨sn, nC + 1, gsn wv nC wl, i + 1, v12, rfl, (by omega), (by omega), (by omega), ?_, ?_, ?_, rfl, hS.pk [0, 1, 2, 3, 4, 5, 6]⟩
   ·
    exact hsn.trans ⟨fun ⟨h1, h2⟩ a b a0 a1 b0 b1 => by
     by_cases e : a = i
     · rw [e]; exact h2 b b0 (by omega)
     · exact h1 a b a0 (by omega) b0 b1, fun h => ⟨fun a b a0 a1 b0 b1 => h a b a0 (by omega) b0 b1, fun b b0 b1 => h i b h0 (by omega) b0 (by omega)⟩⟩
   ·
    intro a b a0 a1 b0 b1
    by_cases e : a = i
    · subst e; exact hdr b b0 (by omega)
    · exact hdv a b a0 (by omega) b0 b1
   ·
    exact hv12
  refine zxt <| ztx <| ztx <| zbh <| ztn <| zsq <| zsr ?_
  refine zs2 ?_
  refine zlt ?_
  refine zcif ?_ ?_ <;> intro hc
  ·
   refine zsr ?_
   refine zlv (xany (v := .agg #[.int .i64 0, .int .i64 0, .slice none 0 0, .slice none 0 0, .slice none 0 0])) ?_
   refine zle (xsw 1 st_175 hS) ?_; clear hS; rintro w hS
   replace hS := hS.n7
   refine zlv xas ?_
   refine zlt <| zrt <| ztr <| zfct 1 st_175 hS ⟨_, rfl, ?_⟩
   exact ⟨_, _, _, fun _ => undef, Tb.zero, 2, rfl, .inr (.inr (.inl ⟨⟨hp, by omega, by omega, by omega, by omega, hnz⟩, fun a b a0 a1 b0 b1 => hdv a b a0 (by omega) b0 b1, fun hq => absurd (hsm.2 fun a b a0 a1 b0 b1 => by have hq1 := hq.cell (i := a) (j := b) a0 (by show a ≤ t.nb; omega) b0 b1; rw [piv_C, hsg] at hq1; omega) ‹_›, rfl, rfl⟩)), slh_nil, slh_nil, slh_nil, ((((hS.sub (.cons _ (.cons _ (.cons _ (.cons _ (.cons _ (.cons _ (.cons _ .slnil)))))))).addnil 1 3 (ints Tb.zero.B)).addnil 1 3 (ints Tb.zero.F)).addnil 1 22 (fun _ => undef)).addrows 3 (fun _ => undef) Tb.zero.ln Tb.zero.C⟩
  refine zsk <| ztn <| zsr ?_
  refine zlv (xls 4 st_175 hS) ?_
  refine zle (xsw 1 st_175 hS (hd := (ones_cons rfl (ones_cons rfl (ones_cons hv2.one (ones_cons hv4.one (ones_cons hwC.one ones_nil))))))) ?_; clear hS; rintro w hS
  replace hS := hS.n7
  refine zlv xas ?_
  refine zlt <| zrt <| zfct 1 st_175 hS ⟨_, rfl, ?_⟩
  obtain rfl : i = t.nc := by omega
  have hden : ((t.C (row + 1)) (col + 1)) = (piv t row col).den := by rw [piv_den, hsg]; omega
  replace hS := hS.recont 2 rfl (d := ints (piv t row col).B) (fun k k0 k1 => by unfold ints; show Value.int .i64 (upd (cat 0 (fun _ => 0) t.B) row (t.F col) k) = Value.int .i64 (upd t.B row (t.F col) k); congr 1; by_cases e : k = row; rw [e, upd_self, upd_self]; rw [upd_ne _ _ e, upd_ne _ _ e]; unfold cat; rw [if_neg (by omega), Int.sub_zero])
  replace hS := hS.recont 3 rfl (d := ints (piv t row col).F) (fun k k0 k1 => by unfold ints; show Value.int .i64 (upd (cat 0 (fun _ => 0) t.F) col (t.B row) k) = Value.int .i64 (upd t.F col (t.B row) k); congr 1; by_cases e : k = col; rw [e, upd_self, upd_self]; rw [upd_ne _ _ e, upd_ne _ _ e]; unfold cat; rw [if_neg (by omega), Int.sub_zero])
  have hsm1 := hsm.1 (by first | assumption | exact Classical.not_not.1 ‹_›)
  subst hnC
  exact ⟨_, _, _, _, piv t row col, 0, by rw [← hden]; rfl, .inr (.inr (.inr ⟨⟨hp, by omega, by omega, by omega, by omega, hnz⟩, fun a b a0 a1 b0 b1 => hdv a b a0 (by omega) b0 b1, piv_prp ⟨hp, by omega, by omega, by omega, by omega, hnz⟩ (fun a b a0 a1 b0 b1 => hsm1 a b a0 (by omega) b0 b1), rfl, rfl⟩)), hv2, hv4, hwC, hS.pk [2, 3, 5, 6]⟩

theorem c_rnextB {vB vF vC : Value} {vv : Int → Value} {t : Tb} (w0 : World) (hT : TAt w0 vB vF vC vv t) : Calls Tryz.prog 159 [.agg #[.int .i64 t.vars, .int .i64 t.den, vB, vF, vC]].toArray w0 fun e w => ∃ v, e = .returned v ∧ ∃ r c d e, v = .tuple #[.int .i64 r, .int .i64 c, B (d = true), .int .i64 e] ∧ NextR t r c d e ∧ Sat w0 w [] :=
  (c_rnext w0 hT).mono fun e w h => by
    obtain ⟨v, he, r, c, d, e', hv, hn, hS⟩ := h
    exact ⟨v, he, r, c, d, e', by rw [hv, bool_B], hn, hS⟩

set_option maxRecDepth 20000 in
theorem c_rrun {vB vF vC : Value} {vv : Int → Value} {t : Tb} (w0 : World) (hT : TAt w0 vB vF vC vv t) :
    Calls Tryz.prog 125 [.agg #[.int .i64 t.vars, .int .i64 t.den, vB, vF, vC]].toArray w0 fun e w => ∃ v, e = .returned v ∧ ∃ xB xF xC xv u z e, v = .tuple #[.agg #[.int .i64 u.vars, .int .i64 u.den, xB, xF, xC], .int .i64 e] ∧ Run 1000 t z e ∧ (e = 0 ∨ e = 19 → z = u) ∧ Slh xB u.nb ∧ Slh xF u.nf ∧ Slh xC u.nc ∧ Sat w0 w [.sem (Frame.alt (u = t ∧ xB = vB ∧ xF = vF ∧ xC = vC ∧ xv = vv) (Frame.bun [.own xB 1 3 u.nb (ints u.B), .own xF 1 3 u.nf (ints u.F), .own xC 1 22 u.nc xv, .sem (Frame.rows 3 u.nc xv u.ln u.C)]))] := by
  refine zenG Tryz.func125 Tryz.ntmps125 fun w hS => ?_
  refine zsr ?_
  refine zla (xbx (cs := [_, _, _, _, _]) hS) ?_; rintro _ w ⟨g1, rfl, hS⟩
  replace hS := hS.n1
  refine zla (xal (cs := [_, _, _, _, _]) el_175 hS) ?_; rintro _ w ⟨g2, rfl, hS⟩
  replace hS := hS.n2
  refine zlv xas ?_
  refine zlz ?_
  refine zlv xas ?_
  refine zlt <| zbk ?_
  replace hS := hS.altL (Frame.bun [.own vB 1 3 t.nb (ints t.B), .own vF 1 3 t.nf (ints t.F), .own vC 1 22 t.nc vv, .sem (Frame.rows 3 t.nc vv t.ln t.C)]) (p := t = t ∧ vB = vB ∧ vF = vF ∧ vC = vC ∧ vv = vv) ⟨rfl, rfl, rfl, rfl, rfl⟩
  replace hS := hS.n3
  refine zlp (fun mm M w => ∃ (u : Tb) (xB : Value) (xF : Value) (xC : Value) (xv : Int → Value) (n : Int), mm = (((1001 : Int) - n).toNat) ∧ (0 ≤ n) ∧ (n ≤ 1000) ∧ (Slh xB u.nb) ∧ (Slh xF u.nf) ∧ (Slh xC u.nc) ∧ (∀ z e, Run (1000 - n).toNat u z e → Run 1000 t z e) ∧ M = [(1, .pointer (some ⟨g1, 0, none⟩)), (2, .pointer (some ⟨g2, 0, none⟩)), (4, .int .i64 n)] ∧ Sat w0 w [.blk g1 [.int .i64 u.vars, .int .i64 u.den, xB, xF, xC], .blk g2 [.int .i64 0, .int .i64 0, .slice none 0 0, .slice none 0 0, .slice none 0 0], .sem (Frame.alt (u = t ∧ xB = vB ∧ xF = vF ∧ xC = vC ∧ xv = vv) (Frame.bun [.own xB 1 3 u.nb (ints u.B), .own xF 1 3 u.nf (ints u.F), .own xC 1 22 u.nc xv, .sem (Frame.rows 3 u.nc xv u.ln u.C)]))]) ⟨t, vB, vF, vC, vv, 0, rfl, (by omega), (by omega), ?_, ?_, ?_, ?_, rfl, hS.sub (List.Sublist.refl _)⟩ ?_
  ·
   exact hT.B.slh
  ·
   exact hT.F.slh
  ·
   exact hT.C.row.slh
  ·
   exact fun z e h => h
  clear hS w
  rintro mm M w ⟨u, xB, xF, xC, xv, n, rfl, n0, n1, hxB, hxF, hxC, hrun, rfl, hS⟩
  have htu := tat_alt (hT.below hS.below) hS 2 rfl
  have hub := htu.B.slh.n0; have hub1 := htu.B.slh.n1; have huf := htu.F.slh.n0; have huf1 := htu.F.slh.n1
  refine zsq <| zbk <| zsr ?_
  refine zlv (xls 0 st_175 hS) ?_
  refine zlc (xc0 cl_159) (c_rnextB (t := u) w (tat_alt (hT.below hS.below) hS 2 rfl)) ?_; rintro _ w ⟨rn1, cn1, dn1, en1, rfl, hnn1, hS'⟩
  replace hS := hS.cmp hS'; clear hS'
  have hrc := hnn1.rng
  refine zs6 ?_
  refine zs3 ?_
  refine zlt <| zsq <| zbk <| zsr ?_
  refine zs3 ?_
  refine zlb 22 ?_ ?_ <;> intro hc
  ·
   refine zlo ?_
   refine zs2 ?_
   refine zlt <| zct <| zsr ?_
   refine zlv (xls 0 st_175 hS) ?_
   refine zlv xmv ?_
   refine zle (xsw 1 st_175 hS (hd := (ones_cons rfl (ones_cons rfl (ones_cons hxB.one (ones_cons hxF.one (ones_cons hxC.one ones_nil))))))) ?_; clear hS; rintro w hS
   replace hS := hS.n3
   refine zlv xas ?_
   refine zlt <| zrt <| zbr <| ztr <| zbr <| ztr <| ztr <| zbr <| zfct 1 st_175 hS ⟨_, rfl, ?_⟩
   exact ⟨xB, xF, xC, xv, u, u, _, rfl, hrun _ _ (.stop hnn1 (by first | exact .inl hc | exact .inr (by omega) | exact .inl ‹_›)), fun _ => rfl, hxB, hxF, hxC, hS.pk [2]⟩
  refine zs3 ?_
  refine zlt ?_
  refine zcif ?_ ?_ <;> intro hc
  ·
   refine zsr ?_
   refine zlv (xls 0 st_175 hS) ?_
   refine zlv xmv ?_
   refine zle (xsw 1 st_175 hS (hd := (ones_cons rfl (ones_cons rfl (ones_cons hxB.one (ones_cons hxF.one (ones_cons hxC.one ones_nil))))))) ?_; clear hS; rintro w hS
   replace hS := hS.n3
   refine zlv xas ?_
   refine zlt <| zrt <| zbr <| ztr <| zbr <| ztr <| ztr <| zbr <| zfct 1 st_175 hS ⟨_, rfl, ?_⟩
   exact ⟨xB, xF, xC, xv, u, u, _, rfl, hrun _ _ (.stop hnn1 (by first | exact .inl hc | exact .inr (by omega) | exact .inl ‹_›)), fun _ => rfl, hxB, hxF, hxC, hS.pk [2]⟩
  refine zsr ?_
  refine zlv xmv ?_
  have hn0 : NextR u rn1 cn1 false 0 := by have h1 : dn1 = false := (by simpa using ‹¬ (dn1 = true)›); have h2 : en1 = 0 := (by omega); have h3 := hnn1; rw [h1, h2] at h3; exact h3
  have hpu := (hn0.prp (by omega)).1; have hq1 := hpu.n2; have hq2 := hpu.m2
  refine zs2 ?_
  refine zlt ?_
  refine zcif ?_ ?_ <;> intro hc
  ·
   refine zsr ?_
   refine zlv (xany (v := .agg #[.int .i64 0, .int .i64 0, .slice none 0 0, .slice none 0 0, .slice none 0 0])) ?_
   refine zle (xsw 1 st_175 hS) ?_; clear hS; rintro w hS
   replace hS := hS.n3
   refine zlv xas ?_
   refine zlt <| zrt <| zbr <| ztr <| zbr <| ztr <| ztr <| zbr <| zfct 1 st_175 hS ⟨_, rfl, ?_⟩
   replace hS := ((((hS.sub (.cons _ (.cons _ (.cons _ .slnil)))).addnil 1 3 (ints Tb.zero.B)).addnil 1 3 (ints Tb.zero.F)).addnil 1 22 (fun _ => undef)).addrows 3 (fun _ => undef) Tb.zero.ln Tb.zero.C
   exact ⟨_, _, _, fun _ => undef, Tb.zero, _, _, rfl, hrun _ _ (by rw [show (1000 - n).toNat = 0 by omega]; exact .lim hn0), fun h => by omega, slh_nil, slh_nil, slh_nil, Sat.altR (Tb.zero = t ∧ (Value.slice none 0 0) = vB ∧ (Value.slice none 0 0) = vF ∧ (Value.slice none 0 0) = vC ∧ (fun _ => undef) = vv) (l1 := []) (l2 := []) (Sat.bundle (l1 := []) hS)⟩
  refine zsk <| zbn <| ztn <| zsr ?_
  refine zlv (xls 0 st_175 hS) ?_
  refine zs2 ?_
  refine zlc (xc0 cl_160) (c_rpivot (t := u) (row := rn1) (col := cn1) w (tat_alt (hT.below hS.below) hS 2 rfl) (by omega) (by omega)) ?_; rintro _ w ⟨vBk1, vFk1, vCk1, vvk1, tk1, ek1, rfl, hpvk1, hsBk1, hsFk1, hsCk1, hS'⟩
  replace hS : Sat w0 w [.blk g1 [.int .i64 u.vars, .int .i64 u.den, xB, xF, xC], .blk g2 [.int .i64 0, .int .i64 0, .slice none 0 0, .slice none 0 0, .slice none 0 0], .sem (Frame.alt (u = t ∧ xB = vB ∧ xF = vF ∧ xC = vC ∧ xv = vv) (Frame.bun [.own xB 1 3 u.nb (ints u.B), .own xF 1 3 u.nf (ints u.F), .own xC 1 22 u.nc xv, .sem (Frame.rows 3 u.nc xv u.ln u.C)])), .own vBk1 1 3 tk1.nb (ints tk1.B), .own vFk1 1 3 tk1.nf (ints tk1.F), .own vCk1 1 22 tk1.nc vvk1, .sem (Frame.rows 3 tk1.nc vvk1 tk1.ln tk1.C)] := hS.comp hS'; clear hS'
  have hrsk1 := fun k (k0 : 0 ≤ k) (k1 : k < tk1.nc) => hS.slhIn 6 rfl k0 k1
  refine zs3 ?_
  refine zla (xal (cs := [_, _, _, _, _]) el_175 hS) ?_; rintro _ w ⟨g3, rfl, hS⟩
  replace hS := hS.n8
  refine zle (xsw 7 st_175 hS (hd := (ones_cons rfl (ones_cons rfl (ones_cons hsBk1.one (ones_cons hsFk1.one (ones_cons hsCk1.one ones_nil))))))) ?_; clear hS; rintro w hS
  replace hS := hS.n8
  refine zlv xas ?_
  refine zlt <| zsq <| zsr ?_
  refine zs2 ?_
  refine zlt ?_
  refine zcif ?_ ?_ <;> intro hc
  ·
   refine zsr ?_
   refine zlv (xany (v := .agg #[.int .i64 0, .int .i64 0, .slice none 0 0, .slice none 0 0, .slice none 0 0])) ?_
   refine zlv xmv ?_
   refine zle (xsw 1 st_175 hS) ?_; clear hS; rintro w hS
   replace hS := hS.n8
   refine zlv xas ?_
   refine zlt <| zrt <| ztr <| zbr <| ztr <| ztr <| zbr <| zfct 1 st_175 hS ⟨_, rfl, ?_⟩
   replace hS := ((((hS.sub (.cons _ (.cons _ (.cons _ (.cons _ (.cons _ (.cons _ (.cons _ (.cons _ .slnil))))))))).addnil 1 3 (ints Tb.zero.B)).addnil 1 3 (ints Tb.zero.F)).addnil 1 22 (fun _ => undef)).addrows 3 (fun _ => undef) Tb.zero.ln Tb.zero.C
   exact ⟨_, _, _, fun _ => undef, Tb.zero, _, _, rfl, hrun _ _ (by rw [show (1000 - n).toNat = (1000 - (n + 1)).toNat + 1 by omega]; exact .bad hn0 hpvk1 (by omega)), fun h => by rcases hpvk1 with ⟨_, _, h1⟩ | ⟨_, _, _, h1⟩ | ⟨_, _, _, _, h1⟩ | ⟨_, _, _, _, h1⟩ <;> omega, slh_nil, slh_nil, slh_nil, Sat.altR (Tb.zero = t ∧ (Value.slice none 0 0) = vB ∧ (Value.slice none 0 0) = vF ∧ (Value.slice none 0 0) = vC ∧ (fun _ => undef) = vv) (l1 := []) (l2 := []) (Sat.bundle (l1 := []) hS)⟩
  refine zsk <| ztn <| zrg ?_
  refine zlv (xls 7 st_175 hS) ?_
  refine zle (xsw 0 st_175 hS (hd := (ones_cons rfl (ones_cons rfl (ones_cons hsBk1.one (ones_cons hsFk1.one (ones_cons hsCk1.one ones_nil))))))) ?_; clear hS; rintro w hS
  replace hS := hS.n8
  refine zln <| zbn <| ztn <| zrg ?_
  refine zlv xmv ?_
  replace hS := hS.sub (.cons_cons _ (.cons_cons _ (.cons _ (.cons_cons _ (.cons_cons _ (.cons_cons _ (.cons_cons _ (.cons _ .slnil))))))))
  replace hS := hS.n6
  replace hS := Sat.altR (tk1 = t ∧ vBk1 = vB ∧ vFk1 = vF ∧ vCk1 = vC ∧ vvk1 = vv) (l1 := [.blk g1 [.int .i64 tk1.vars, .int .i64 tk1.den, vBk1, vFk1, vCk1], .blk g2 [.int .i64 0, .int .i64 0, .slice none 0 0, .slice none 0 0, .slice none 0 0]]) (l2 := []) (Sat.bundle (l1 := [.blk g1 [.int .i64 tk1.vars, .int .i64 tk1.den, vBk1, vFk1, vCk1], .blk g2 [.int .i64 0, .int .i64 0, .slice none 0 0, .slice none 0 0, .slice none 0 0]]) (l2 := [.own vBk1 1 3 tk1.nb (ints tk1.B), .own vFk1 1 3 tk1.nf (ints tk1.F), .own vCk1 1 22 tk1.nc vvk1, .sem (Frame.rows 3 tk1.nc vvk1 tk1.ln tk1.C)]) hS)
  replace hS := hS.n3
  refine zlv (xadd (r := n + 1)) ?_
  refine zlv xas ?_
  refine zln <| zlq ⟨tk1, vBk1, vFk1, vCk1, vvk1, n + 1, rfl, (by omega), (by omega), ?_, ?_, ?_, ?_, rfl, hS.sub (List.Sublist.refl _)⟩
  ·
   exact hsBk1
  ·
   exact hsFk1
  ·
   exact hsCk1
  ·
   intro z e hz; have he0 : ek1 = 0 := (by omega); rw [he0] at hpvk1; exact hrun z e (by rw [show (1000 - n).toNat = (1000 - (n + 1)).toNat + 1 by omega]; exact .go hn0 hpvk1 hz)

def OptR (t t' : Tb) (e : Int) : Prop := ∃ u f, Run 1000 t u f ∧ ((f = 0 ∧ e = 0 ∧ t' = u) ∨ (f ≠ 0 ∧ e = f ∧ t' = Tb.zero))
theorem OptR.same {t t1 t2 : Tb} {e1 e2 : Int} (h1 : OptR t t1 e1) (h2 : OptR t t2 e2) : t1 = t2 ∧ e1 = e2 := by
  obtain ⟨u, f, hr, h⟩ := h1
  obtain ⟨u', f', hr', h'⟩ := h2
  obtain ⟨rfl, rfl⟩ := hr.same hr'
  rcases h with ⟨a1, a2, a3⟩ | ⟨a1, a2, a3⟩ <;> rcases h' with ⟨b1, b2, b3⟩ | ⟨b1, b2, b3⟩
  · exact ⟨by rw [a3, b3], by omega⟩
  · exact absurd a1 b1
  · exact absurd b1 a1
  · exact ⟨by rw [a3, b3], by omega⟩

set_option maxRecDepth 20000 in
theorem c_rstart {vc vA vb : Value} {vq : Int → Value} {p : Lp} (w0 : World) (hL : LAt w0 vc vA vb vq p) :
    Calls Tryz.prog 124 [.agg #[vc, vA, vb]].toArray w0 fun e w => ∃ v, e = .returned v ∧ ∃ vB vF vC vv t' e, v = .tuple #[.agg #[.int .i64 t'.vars, .int .i64 t'.den, vB, vF, vC], .int .i64 e] ∧ StartR p t' e ∧ Slh vB t'.nb ∧ Slh vF t'.nf ∧ Slh vC t'.nc ∧ Sat w0 w [.own vB 1 3 t'.nb (ints t'.B), .own vF 1 3 t'.nf (ints t'.F), .own vC 1 22 t'.nc vv, .sem (Frame.rows 3 t'.nc vv t'.ln t'.C)] := by
  have hn := hL.c.slh.n0; have hn1 := hL.c.slh.n1; have hm := hL.A.row.slh.n0; have hm1 := hL.A.row.slh.n1; have hk := hL.b.slh.n0; have hk1 := hL.b.slh.n1
  refine zenG Tryz.func124 Tryz.ntmps124 fun w hS => ?_
  refine zsr ?_
  refine zla (xbx (cs := [_, _, _]) hS) ?_; rintro _ w ⟨g1, rfl, hS⟩
  replace hS := hS.n1
  refine zla (xal (cs := [_, _, _, _, _]) el_175 hS) ?_; rintro _ w ⟨g2, rfl, hS⟩
  replace hS := hS.n2
  refine zlv xas ?_
  refine zlt <| zsq <| zsr ?_
  refine zlv (xls 0 st_134 hS) ?_
  refine zlc (xc0 cl_158) (c_rvalid (p := p) w (hL.below hS.below)) ?_; rintro _ w ⟨rfl, hS'⟩
  replace hS := hS.cmp hS'; clear hS'
  refine zlv xnot ?_
  refine zlt ?_
  refine zcif ?_ ?_ <;> intro hc
  ·
   refine zsr ?_
   refine zlv (xany (v := .agg #[.int .i64 0, .int .i64 0, .slice none 0 0, .slice none 0 0, .slice none 0 0])) ?_
   refine zle (xsw 1 st_175 hS) ?_; clear hS; rintro w hS
   replace hS := hS.n2
   refine zlv xas ?_
   refine zlt <| zrt <| ztr <| zfct 1 st_175 hS ⟨_, rfl, ?_⟩
   exact ⟨_, _, _, fun _ => undef, Tb.zero, 1, rfl, .inl ⟨‹_›, rfl, rfl⟩, slh_nil, slh_nil, slh_nil, ((((hS.sub (.cons _ (.cons _ .slnil))).addnil 1 3 (ints Tb.zero.B)).addnil 1 3 (ints Tb.zero.F)).addnil 1 22 (fun _ => undef)).addrows 3 (fun _ => undef) Tb.zero.ln Tb.zero.C⟩
  refine zsk <| ztn <| zsr ?_
  refine zlv (xfb 0 fd_134_0) ?_
  have hl : LOk p := by first | assumption | exact Classical.not_not.1 ‹¬ ¬ (LOk p)›
  have b1 := hl.n1
  have b2 := hl.n2
  have b3 := hl.m2
  have b4 := hl.k
  refine zlv (xlb 0 pl_22 hS) ?_
  refine zlv (xln sl_22 hL.c.slh) ?_
  refine zlv xas ?_
  refine zlz ?_
  refine zlv xmv ?_
  refine zla (xli (n := 1) (len := 1) (pv := [(0, .int .i64 0)]) (cs := [.int .i64 0]) (c := ints (fun _ => 0)) sl_22 el_3 hS) ?_; rintro v1 w ⟨hS, hv1⟩
  replace hS := hS.n3
  refine zlv (xfb 0 fd_134_0) ?_
  refine zlv (xlb 0 pl_22 hS) ?_
  refine zla (xap 2 (r := p.n + 1) (f := ints (cat 1 (fun _ => 0) p.c)) sl_22 el_3 hS (hL.c.below hS.below) (by exact cat_ints1 _ _ _)) ?_; rintro v2 w ⟨hS, hv2⟩
  replace hS := hS.n3
  refine zla (xli (n := 1) (len := 1) (pv := [(0, v2)]) (cs := [v2]) (c := (fun _ => v2)) sl_27 el_22 hS (hf := by obtain ⟨_, _, _, _, rfl, _⟩ := hv2; kernel_rfl)) ?_; rintro v3 w ⟨hS, hv3⟩
  replace hS := hS.n4
  refine zlv (xany (v := .agg #[.int .i64 p.n, .int .i64 1, .slice none 0 0, .slice none 0 0, v3]) (hr := by obtain ⟨_, _, _, _, rfl, _⟩ := hv3; kernel_rfl)) ?_
  refine zla (xal (cs := [_, _, _, _, _]) el_175 hS) ?_; rintro _ w ⟨g3, rfl, hS⟩
  replace hS := hS.n5
  refine zle (xsw 4 st_175 hS (hd := (ones_cons rfl (ones_cons rfl (ones_cons rfl (ones_cons rfl (ones_cons hv3.one ones_nil))))))) ?_; clear hS; rintro w hS
  replace hS := hS.n5
  refine zlt <| zsq <| zsr ?_
  refine zlv xas ?_
  refine zlt <| zbk ?_
  replace hS := hS.addrows 3 (fun _ => Value.slice none 0 0) (fun _ => 0) (fun _ _ => 0)
  replace hS := hS.n6
  replace hS := Sat.merge2 (l1 := [.blk g1 [vc, vA, vb], .blk g2 [.int .i64 0, .int .i64 0, .slice none 0 0, .slice none 0 0, .slice none 0 0]]) (l2 := [.own v3 1 22 1 (fun _ => v2), .blk g3 [.int .i64 p.n, .int .i64 1, .slice none 0 0, .slice none 0 0, v3]]) (l3 := []) hS (by omega)
  replace hS := hS.rerows (vv' := (fun _ => v2)) (ln' := (startT p).ln) (f' := (startT p).C) 4 rfl (fun k k0 k1 => by
    obtain rfl : k = 0 := by omega
    refine ⟨gsn_self _ _ _, ?_, fun j j0 j1 => ?_⟩
    · rw [gsn_self]; show _ = p.n + 1; omega
    · rw [gsn_self]; unfold startT cat; dsimp only; (repeat' split) <;> first | rfl | omega)
  replace hS := hS.n5
  have hrs0 := fun k (k0 : 0 ≤ k) (k1 : k < 1) => hS.slhIn 4 rfl k0 k1
  replace hS := hS.addnil 1 3 (ints (fun _ => 0))
  replace hS := hS.n6
  replace hS := hS.addnil 1 3 (ints (fun _ => 0))
  replace hS := hS.n7
  refine zlp (fun mm M w => ∃ (nF : Int) (j : Int) (wF : Value) (fF : Int → Int), mm = ((p.n - j).toNat) ∧ (0 ≤ j) ∧ (j ≤ p.n) ∧ (nF = j) ∧ (∀ k, 0 ≤ k → k < j → fF k = k) ∧ (Slh wF nF) ∧ M = [(1, .pointer (some ⟨g1, 0, none⟩)), (2, .pointer (some ⟨g2, 0, none⟩)), (3, .int .i64 0), (4, .int .i64 p.n), (5, .pointer (some ⟨g3, 0, none⟩)), (6, .int .i64 j)] ∧ Sat w0 w [.blk g1 [vc, vA, vb], .blk g2 [.int .i64 0, .int .i64 0, .slice none 0 0, .slice none 0 0, .slice none 0 0], .own v3 1 22 1 (fun _ => v2), .blk g3 [.int .i64 p.n, .int .i64 1, (.slice none 0 0), wF, v3], .sem (Frame.rows 3 1 (fun _ => v2) ((startT p).ln) ((startT p).C)), .own wF 1 3 nF (ints fF), .own (.slice none 0 0) 1 3 0 (ints (fun _ => 0))]) ⟨0, 0, (.slice none 0 0), (fun _ => 0), rfl, (by omega), (by omega), (by omega), ?_, ?_, rfl, hS⟩ ?_
  ·
   intro k k0 k1; omega
  ·
   exact slh_nil
  clear hS w
  rintro mm M w ⟨nF, j, wF, fF, rfl, j0, j1, hnF, hfF, hwF, rfl, hS⟩
  refine zsq <| zsr ?_
  refine zs3 ?_
  refine zlt ?_
  refine zcif ?_ ?_ <;> intro hc
  ·
   refine zsk <| ztn <| zsq <| zbk <| zrg ?_
   refine zlv (xfb 3 fd_175_3) ?_
   refine zlv (xlb 3 pl_22 hS) ?_
   refine zlv xmv ?_
   refine zla (xli (n := 1) (len := 1) (pv := [(0, .int .i64 j)]) (cs := [.int .i64 j]) (c := ints (fun _ => j)) sl_22 el_3 hS) ?_; rintro v4 w ⟨hS, hv4⟩
   replace hS := hS.n8
   refine zla (xap 5 (r := nF + 1) sl_22 el_3 hS (hS.rowN 7 rfl) (cat_snoc _ _ _)) ?_; rintro v5 w ⟨hS, hv5⟩
   replace hS := hS.n8
   refine zlv (xfb 3 fd_175_3) ?_
   refine zle (xsb 3 pl_22 hS (hv := hv5.one)) ?_; clear hS; rintro w hS
   replace hS := hS.n8
   refine zln <| zbn <| ztn <| zrg ?_
   refine zlv xmv ?_
   refine zlv (xadd (r := j + 1)) ?_
   refine zlv xas ?_
   refine zln <| zlq ⟨nF + 1, j + 1, v5, (snoc fF nF j), rfl, (by omega), (by omega), (by omega), ?_, ?_, rfl, hS.pk [0, 1, 2, 3, 4, 5, 6]⟩
   ·
    intro k k0 k1; by_cases e : k < nF
    · rw [snoc_lt e]; exact hfF k k0 (by omega)
    · rw [snoc_at e]; omega
   ·
    exact hv5
  refine zxt <| ztx <| ztx <| zbh <| ztn <| zsq <| zsr ?_
  refine zlv xas ?_
  refine zlt <| zbk <| zlp (fun mm M w => ∃ (mB : Int) (nC : Int) (wv : Int → Value) (i : Int) (wB : Value) (fB : Int → Int) (wC : Value), mm = ((p.m - i).toNat) ∧ (0 ≤ i) ∧ (i ≤ p.m) ∧ (mB = i) ∧ (nC = i + 1) ∧ (∀ k, 0 ≤ k → k < i → fB k = p.n + k) ∧ (Slh wB mB) ∧ (Slh wC nC) ∧ M = [(1, .pointer (some ⟨g1, 0, none⟩)), (2, .pointer (some ⟨g2, 0, none⟩)), (3, .int .i64 0), (4, .int .i64 p.n), (5, .pointer (some ⟨g3, 0, none⟩)), (7, .int .i64 i)] ∧ Sat w0 w [.blk g1 [vc, vA, vb], .blk g2 [.int .i64 0, .int .i64 0, .slice none 0 0, .slice none 0 0, .slice none 0 0], .own wC 1 22 nC wv, .blk g3 [.int .i64 p.n, .int .i64 1, wB, wF, wC], .sem (Frame.rows 3 nC wv ((startT p).ln) ((startT p).C)), .own wF 1 3 nF (ints fF), .own wB 1 3 mB (ints fB)]) ⟨0, 1, (fun _ => v2), 0, (.slice none 0 0), (fun _ => 0), v3, rfl, (by omega), (by omega), (by omega), (by omega), ?_, ?_, ?_, rfl, hS⟩ ?_
  ·
   intro k k0 k1; omega
  ·
   exact slh_nil
  ·
   exact hv3
  clear hS w
  rintro mm M w ⟨mB, nC, wv, i, wB, fB, wC, rfl, i0, i1, hmB, hnC, hfB, hwB, hwC, rfl, hS⟩
  have hrs1 := fun k (k0 : 0 ≤ k) (k1 : k < nC) => hS.slhIn 4 rfl k0 k1
  refine zsq <| zsr ?_
  refine zlv xmv ?_
  refine zlv (xfb 1 fd_134_1) ?_
  refine zlv (xlb 0 pl_27 hS) ?_
  refine zlv (xln sl_27 hL.A.row.slh) ?_
  refine zlv xlss ?_
  refine zlt ?_
  refine zcif ?_ ?_ <;> intro hc
  ·
   refine zsk <| ztn <| zsq <| zbk <| zsr ?_
   refine zlv (xfb 2 fd_175_2) ?_
   refine zlv (xlb 3 pl_22 hS) ?_
   refine zs2 ?_
   refine zlv (xadd (r := p.n + i)) ?_
   refine zla (xli (n := 1) (len := 1) (pv := [(0, .int .i64 (p.n + i))]) (cs := [.int .i64 (p.n + i)]) (c := ints (fun _ => p.n + i)) sl_22 el_3 hS) ?_; rintro v6 w ⟨hS, hv6⟩
   replace hS := hS.n8
   refine zla (xap 6 (r := mB + 1) sl_22 el_3 hS (hS.rowN 7 rfl) (cat_snoc _ _ _)) ?_; rintro v7 w ⟨hS, hv7⟩
   replace hS := hS.n8
   refine zlv (xfb 2 fd_175_2) ?_
   refine zle (xsb 3 pl_22 hS (hv := hv7.one)) ?_; clear hS; rintro w hS
   replace hS := hS.n8
   refine zlt ?_
   refine zdst [0, 1, 3] [0, 1] 18 mx_ hS ?_; clear hS; intro w hS
   refine zdv 0 (fun _ => (xfb 4 fd_175_4)) ?_
   have hri := hl.rows i i0 (by omega)
   refine zdl 1 (fun w hS => (xlb 2 pl_27 hS)) ?_
   refine zdv 2 (fun _ => (xfb 2 fd_134_2)) ?_
   refine zdla 3 (fun w hS => (xlb 0 pl_22 hS)) ?_
   refine zdv 4 (fun _ => xmv) ?_
   refine zdv 5 (fun _ => (xix (kk := i) sl_22 hL.b.slh)) ?_
   refine zdla 6 (fun w hS => (xlr (u := .int .i64 (p.b i)) pl_3 (hL.b.below hS.below))) ?_
   have hbi := hl.b i i0 (by omega)
   refine zdv 7 (fun _ => (xneg (r := -((p.b i))))) ?_
   refine zdv 9 (fun _ => (xfb 1 fd_134_1)) ?_
   refine zdla 10 (fun w hS => (xlb 0 pl_27 hS)) ?_
   refine zdv 11 (fun _ => xmv) ?_
   refine zdv 12 (fun _ => (xix (kk := i) sl_27 hL.A.row.slh)) ?_
   refine zdla 13 (fun w hS => (xlr (u := (vq i)) pl_22 (hL.A.row.below hS.below))) ?_
   refine zda 8 (xli (n := 1) (len := 1) (pv := [(0, .int .i64 (-((p.b i))))]) (cs := [.int .i64 (-((p.b i)))]) (c := ints (fun _ => -((p.b i)))) sl_22 el_3 hS) ?_; rintro v8 w ⟨hS, hv8⟩
   replace hS := hS.n9
   refine ⟨⟨fun _ => hS.pk [0, 1, 3], hS.pk [0, 1]⟩, ?_⟩
   refine zda 14 (xap 8 (r := (p.ln i) + 1) (f := ints (cat 1 (fun _ => -(p.b i)) (p.A i))) sl_22 el_3 hS ((hL.A.p i (by omega) (by omega)).below hS.below) (by exact cat_ints1 _ _ _)) ?_; rintro v9 w ⟨hS, hv9⟩
   replace hS := hS.n9
   refine ⟨⟨fun _ => hS.pk [0, 1, 3], hS.pk [0, 1]⟩, ?_⟩
   refine zda 15 (xli (n := 1) (len := 1) (pv := [(0, v9)]) (cs := [v9]) (c := (fun _ => v9)) sl_27 el_22 hS (hf := by obtain ⟨_, _, _, _, rfl, _⟩ := hv9; kernel_rfl)) ?_; rintro v10 w ⟨hS, hv10⟩
   replace hS := hS.n10
   refine ⟨⟨fun _ => hS.pk [0, 1, 3], hS.pk [0, 1]⟩, ?_⟩
   refine zda 16 (xap 2 (r := nC + 1) sl_27 el_22 hS (hS.rowN 9 rfl) (cat_gsn _ _ _) (h1 := fun _ _ _ => hv9.one)) ?_; rintro v11 w ⟨hS, hv11⟩
   replace hS := hS.n10
   replace hS := Sat.merge (l1 := [_, _, _, _]) (l2 := [_, _, _]) (l3 := [_]) hS (by omega)
   have hrs2 := fun k (k0 : 0 ≤ k) (k1 : k < nC + 1) => hS.slhIn 4 rfl k0 k1
   replace hS := hS.n9
   refine ⟨⟨fun _ => hS.pk [0, 1, 3], hS.pk [0, 1]⟩, ?_⟩
   refine zdv 17 (fun _ => (xfb 4 fd_175_4)) ?_
   refine zde 18 (xsb 3 pl_27 hS (hv := hv11.one)) ?_; clear hS; rintro w hS
   replace hS := hS.n9
   refine ⟨⟨fun h => absurd h (by decide), hS.pk [0, 1]⟩, ?_⟩
   refine zdd <| zbn <| ztn <| zrg ?_
   refine zlv xmv ?_
   replace hS := hS.rerows (vv' := gsn wv nC v9) (ln' := (startT p).ln) (f' := (startT p).C) 4 rfl (fun k k0 k1 => by
     by_cases e : k < i + 1
     · exact ⟨rfl, gsn_lt (by omega), fun j _ _ => by rw [gsn_lt (by omega)]⟩
     · have hki : k = i + 1 := by omega
       refine ⟨rfl, ?_, fun j j0 j1 => ?_⟩
       · rw [gsn_at (by omega)]; show _ = p.n + 1; omega
       · rw [gsn_at (by omega)]; unfold startT cat; dsimp only; (repeat' split) <;> first | rfl | omega | (congr 2; omega) | (congr 1; omega))
   replace hS := hS.n9
   have hrs2x := fun k (k0 : 0 ≤ k) (k1 : k < nC + 1) => hS.slhIn 4 rfl k0 k1
   refine zlv (xadd (r := i + 1)) ?_
   refine zlv xas ?_
   refine zln <| zlq ⟨mB + 1, nC + 1, gsn wv nC v9, i + 1, v7, (snoc fB mB (p.n + i)), v11, rfl, (by omega), (by omega), (by omega), (by omega), ?_, ?_, ?_, rfl, hS.pk [0, 1, 2, 3, 4, 5, 6]⟩
   ·
    intro k k0 k1; by_cases e : k < mB
    · rw [snoc_lt e]; exact hfB k k0 (by omega)
    · rw [snoc_at e]; omega
   ·
    exact hv7
   ·
    exact hv11
  refine zxt <| ztx <| ztx <| zbh <| ztn <| zsr ?_
  refine zlv (xls 3 st_175 hS) ?_
  refine zle (xsw 1 st_175 hS (hd := (ones_cons rfl (ones_cons rfl (ones_cons hwB.one (ones_cons hwF.one (ones_cons hwC.one ones_nil))))))) ?_; clear hS; rintro w hS
  replace hS := hS.n7
  refine zlv xas ?_
  refine zlt <| zrt <| zfct 1 st_175 hS ⟨_, rfl, ?_⟩
  obtain rfl : i = p.m := by omega
  obtain rfl : mB = p.m := by omega
  obtain rfl : nC = p.m + 1 := by omega
  obtain rfl : nF = p.n := by omega
  replace hS := hS.recont 6 rfl (d := ints (startT p).B) (fun k k0 k1 => by unfold ints; rw [hfB k k0 (by simp at k1; omega)]; rfl)
  replace hS := hS.recont 5 rfl (d := ints (startT p).F) (fun k k0 k1 => by unfold ints; rw [hfF k k0 (by simp at k1; omega)]; rfl)
  exact ⟨_, _, _, _, startT p, 0, rfl, .inr ⟨hl, rfl, rfl⟩, hwB, hwF, hwC, (hS.pk [2, 4, 5, 6]).perm (perm_step (l1 := [_, _, _]) (l2 := []) (perm_step (l1 := [_, _]) (l2 := []) (List.Perm.refl _)))⟩

set_option maxRecDepth 20000 in
theorem c_read {vB vF vC : Value} {vv : Int → Value} {t : Tb} (w0 : World) (hT : TAt w0 vB vF vC vv t) (hp : TPrp t) :
    Calls Tryz.prog 126 [.agg #[.int .i64 t.vars, .int .i64 t.den, vB, vF, vC]].toArray w0 fun e w => ∃ v, e = .returned v ∧ ∃ vX vY, v = .agg #[vX, vY, .int .i64 (t.C 0 0), .int .i64 t.den] ∧ Slh vX t.nf ∧ Slh vY t.nb ∧ Sat w0 w [.own vX 1 3 t.nf (ints (rdX t t.nb.toNat)), .own vY 1 3 t.nb (ints (rdY t t.nf.toNat))] := by
  have hn := hT.F.slh.n0; have hn1 := hT.F.slh.n1; have hb := hT.B.slh.n0; have hb1 := hT.B.slh.n1; have hc0 := hT.C.row.slh.n0; have hc1 := hT.C.row.slh.n1
  have b1 := hp.n1; have b2 := hp.n2; have b3 := hp.m2; have b4 := hp.v; have b5 := hp.d1; have b6 := hp.d2; have b7 := hp.c
  have hl0 := hp.len (i := 0) (by omega) (by omega)
  refine zenG Tryz.func126 Tryz.ntmps126 fun w hS => ?_
  refine zsr ?_
  refine zla (xbx (cs := [_, _, _, _, _]) hS) ?_; rintro _ w ⟨g1, rfl, hS⟩
  replace hS := hS.n1
  refine zla (xal (cs := [_, _, _, _]) el_36 hS) ?_; rintro _ w ⟨g2, rfl, hS⟩
  replace hS := hS.n2
  refine zlt <| zsq <| ?_
  refine zgcut (fun M w => ∃ (v1 : Value) (v2 : Value) (g3 : Nat), (Slh v1 t.vars) ∧ (Slh v2 t.nb) ∧ M = [(0, .agg #[.int .i64 t.vars, .int .i64 t.den, vB, vF, vC]), (1, .pointer (some ⟨g1, 0, none⟩)), (2, .pointer (some ⟨g2, 0, none⟩)), (6, .pointer (some ⟨g1, 0, none⟩)), (7, .int .i64 t.vars), (9, .pointer (some ⟨g1, 2, none⟩)), (10, vB), (11, .int .i64 t.nb), (13, .pointer (some ⟨g1, 4, none⟩)), (14, vC), (15, .pointer (some (cad vC 0))), (16, (vv 0)), (17, .pointer (some (cad (vv 0) 0))), (18, .int .i64 ((t.C 0) 0)), (19, .pointer (some ⟨g1, 1, none⟩)), (20, .int .i64 t.den), (8, v1), (12, v2), (21, .agg #[v1, v2, .int .i64 ((t.C 0) 0), .int .i64 t.den]), (3, .pointer (some ⟨g3, 0, none⟩))] ∧ Sat w0 w [.blk g1 [.int .i64 t.vars, .int .i64 t.den, vB, vF, vC], .blk g2 [.slice none 0 0, .slice none 0 0, .int .i64 0, .int .i64 0], .own v1 1 3 t.vars (ints (fun _ => 0)), .own v2 1 3 t.nb (ints (fun _ => 0)), .blk g3 [v1, v2, .int .i64 ((t.C 0) 0), .int .i64 t.den]]) ?_ ?_
  ·
   refine zdst [0, 1] [0, 1] 17 mx_ hS ?_; clear hS; intro w hS
   refine zdv 0 (fun _ => (xfb 0 fd_175_0)) ?_
   refine zdla 1 (fun w hS => (xlb 0 pl_3 hS)) ?_
   refine zdv 3 (fun _ => (xfb 2 fd_175_2)) ?_
   refine zdla 4 (fun w hS => (xlb 0 pl_22 hS)) ?_
   refine zdv 5 (fun _ => (xln sl_22 hT.B.slh)) ?_
   refine zdv 7 (fun _ => (xfb 4 fd_175_4)) ?_
   refine zdla 8 (fun w hS => (xlb 0 pl_27 hS)) ?_
   refine zdv 9 (fun _ => (xix (kk := 0) sl_27 hT.C.row.slh)) ?_
   refine zdla 10 (fun w hS => (xlr (u := (vv 0)) pl_22 (hT.C.row.below hS.below))) ?_
   refine zdv 11 (fun _ => (xix (kk := 0) sl_22 (hT.C.p 0 (by omega) (by omega)).slh)) ?_
   refine zdla 12 (fun w hS => (xlr (u := .int .i64 ((t.C 0) 0)) pl_3 ((hT.C.p 0 (by omega) (by omega)).below hS.below))) ?_
   refine zdv 13 (fun _ => (xfb 1 fd_175_1)) ?_
   refine zdla 14 (fun w hS => (xlb 0 pl_3 hS)) ?_
   refine zdfk (r := [2, 6, 16]) ((zdn1 ?_ (zdn1 ?_ (zdn1 ?_ zdn0))))
   ·
    refine zka (xmk sl_22 el_3 hS) ?_; rintro v1 w ⟨hS, hv1⟩
    replace hS := hS.n3
    refine ⟨⟨fun _ => hS.pk [0, 1], hS.pk [0, 1]⟩, ?_⟩
    refine zdfk (r := [6, 16]) ((zdn1 ?_ (zdn1 ?_ zdn0)))
    ·
     refine zka (xmk sl_22 el_3 hS) ?_; rintro v2 w ⟨hS, hv2⟩
     replace hS := hS.n4
     refine ⟨⟨fun _ => hS.pk [0, 1], hS.pk [0, 1]⟩, ?_⟩
     refine zdv 15 (fun _ => (xany (v := .agg #[v1, v2, .int .i64 ((t.C 0) 0), .int .i64 t.den]) (hr := by obtain ⟨_, _, _, _, rfl, _⟩ := hv1; obtain ⟨_, _, _, _, rfl, _⟩ := hv2; kernel_rfl))) ?_
     refine zda 16 (xal (cs := [_, _, _, _]) el_36 hS) ?_; rintro _ w ⟨g3, rfl, hS⟩
     replace hS := hS.n5
     refine ⟨⟨fun _ => hS.pk [0, 1], hS.pk [0, 1]⟩, ?_⟩
     refine zde 17 (xsw 4 st_36 hS (hd := (ones_cons hv1.one (ones_cons hv2.one (ones_cons rfl (ones_cons rfl ones_nil)))))) ?_; clear hS; rintro w hS
     replace hS := hS.n5
     refine ⟨⟨fun h => absurd h (by decide), hS.pk [0, 1]⟩, ?_⟩
     refine zdd <| zgj ⟨v1, v2, g3, hv1, hv2, rfl, hS⟩
    refine zka (xal (cs := [_, _, _, _]) el_36 hS) ?_; rintro _ w ⟨g3, rfl, hS⟩
    replace hS := hS.n4
    refine ⟨⟨fun _ => hS.pk [0, 1], hS.pk [0, 1]⟩, ?_⟩
    refine zda 6 (xmk sl_22 el_3 hS) ?_; rintro v2 w ⟨hS, hv2⟩
    replace hS := hS.n5
    refine ⟨⟨fun _ => hS.pk [0, 1], hS.pk [0, 1]⟩, ?_⟩
    refine zdv 15 (fun _ => (xany (v := .agg #[v1, v2, .int .i64 ((t.C 0) 0), .int .i64 t.den]) (hr := by obtain ⟨_, _, _, _, rfl, _⟩ := hv1; obtain ⟨_, _, _, _, rfl, _⟩ := hv2; kernel_rfl))) ?_
    refine zde 17 (xsw 3 st_36 hS (hd := (ones_cons hv1.one (ones_cons hv2.one (ones_cons rfl (ones_cons rfl ones_nil)))))) ?_; clear hS; rintro w hS
    replace hS := hS.n5
    refine ⟨⟨fun h => absurd h (by decide), hS.pk [0, 1]⟩, ?_⟩
    refine zdd <| zgj ⟨v1, v2, g3, hv1, hv2, rfl, hS.pk [0, 1, 2, 4, 3]⟩
   ·
    refine zka (xmk sl_22 el_3 hS) ?_; rintro v1 w ⟨hS, hv1⟩
    replace hS := hS.n3
    refine ⟨⟨fun _ => hS.pk [0, 1], hS.pk [0, 1]⟩, ?_⟩
    refine zdfk (r := [2, 16]) ((zdn1 ?_ (zdn1 ?_ zdn0)))
    ·
     refine zka (xmk sl_22 el_3 hS) ?_; rintro v2 w ⟨hS, hv2⟩
     replace hS := hS.n4
     refine ⟨⟨fun _ => hS.pk [0, 1], hS.pk [0, 1]⟩, ?_⟩
     refine zdv 15 (fun _ => (xany (v := .agg #[v2, v1, .int .i64 ((t.C 0) 0), .int .i64 t.den]) (hr := by obtain ⟨_, _, _, _, rfl, _⟩ := hv2; obtain ⟨_, _, _, _, rfl, _⟩ := hv1; kernel_rfl))) ?_
     refine zda 16 (xal (cs := [_, _, _, _]) el_36 hS) ?_; rintro _ w ⟨g3, rfl, hS⟩
     replace hS := hS.n5
     refine ⟨⟨fun _ => hS.pk [0, 1], hS.pk [0, 1]⟩, ?_⟩
     refine zde 17 (xsw 4 st_36 hS (hd := (ones_cons hv2.one (ones_cons hv1.one (ones_cons rfl (ones_cons rfl ones_nil)))))) ?_; clear hS; rintro w hS
     replace hS := hS.n5
     refine ⟨⟨fun h => absurd h (by decide), hS.pk [0, 1]⟩, ?_⟩
     refine zdd <| zgj ⟨v2, v1, g3, hv2, hv1, rfl, hS.pk [0, 1, 3, 2, 4]⟩
    refine zka (xal (cs := [_, _, _, _]) el_36 hS) ?_; rintro _ w ⟨g3, rfl, hS⟩
    replace hS := hS.n4
    refine ⟨⟨fun _ => hS.pk [0, 1], hS.pk [0, 1]⟩, ?_⟩
    refine zda 2 (xmk sl_22 el_3 hS) ?_; rintro v2 w ⟨hS, hv2⟩
    replace hS := hS.n5
    refine ⟨⟨fun _ => hS.pk [0, 1], hS.pk [0, 1]⟩, ?_⟩
    refine zdv 15 (fun _ => (xany (v := .agg #[v2, v1, .int .i64 ((t.C 0) 0), .int .i64 t.den]) (hr := by obtain ⟨_, _, _, _, rfl, _⟩ := hv2; obtain ⟨_, _, _, _, rfl, _⟩ := hv1; kernel_rfl))) ?_
    refine zde 17 (xsw 3 st_36 hS (hd := (ones_cons hv2.one (ones_cons hv1.one (ones_cons rfl (ones_cons rfl ones_nil)))))) ?_; clear hS; rintro w hS
    replace hS := hS.n5
    refine ⟨⟨fun h => absurd h (by decide), hS.pk [0, 1]⟩, ?_⟩
    refine zdd <| zgj ⟨v2, v1, g3, hv2, hv1, rfl, hS.pk [0, 1, 4, 2, 3]⟩
   refine zka (xal (cs := [_, _, _, _]) el_36 hS) ?_; rintro _ w ⟨g3, rfl, hS⟩
   replace hS := hS.n3
   refine ⟨⟨fun _ => hS.pk [0, 1], hS.pk [0, 1]⟩, ?_⟩
   refine zdfk (r := [2, 6]) ((zdn1 ?_ (zdn1 ?_ zdn0)))
   ·
    refine zka (xmk sl_22 el_3 hS) ?_; rintro v1 w ⟨hS, hv1⟩
    replace hS := hS.n4
    refine ⟨⟨fun _ => hS.pk [0, 1], hS.pk [0, 1]⟩, ?_⟩
    refine zda 6 (xmk sl_22 el_3 hS) ?_; rintro v2 w ⟨hS, hv2⟩
    replace hS := hS.n5
    refine ⟨⟨fun _ => hS.pk [0, 1], hS.pk [0, 1]⟩, ?_⟩
    refine zdv 15 (fun _ => (xany (v := .agg #[v1, v2, .int .i64 ((t.C 0) 0), .int .i64 t.den]) (hr := by obtain ⟨_, _, _, _, rfl, _⟩ := hv1; obtain ⟨_, _, _, _, rfl, _⟩ := hv2; kernel_rfl))) ?_
    refine zde 17 (xsw 2 st_36 hS (hd := (ones_cons hv1.one (ones_cons hv2.one (ones_cons rfl (ones_cons rfl ones_nil)))))) ?_; clear hS; rintro w hS
    replace hS := hS.n5
    refine ⟨⟨fun h => absurd h (by decide), hS.pk [0, 1]⟩, ?_⟩
    refine zdd <| zgj ⟨v1, v2, g3, hv1, hv2, rfl, hS.pk [0, 1, 3, 4, 2]⟩
   refine zka (xmk sl_22 el_3 hS) ?_; rintro v1 w ⟨hS, hv1⟩
   replace hS := hS.n4
   refine ⟨⟨fun _ => hS.pk [0, 1], hS.pk [0, 1]⟩, ?_⟩
   refine zda 2 (xmk sl_22 el_3 hS) ?_; rintro v2 w ⟨hS, hv2⟩
   replace hS := hS.n5
   refine ⟨⟨fun _ => hS.pk [0, 1], hS.pk [0, 1]⟩, ?_⟩
   refine zdv 15 (fun _ => (xany (v := .agg #[v2, v1, .int .i64 ((t.C 0) 0), .int .i64 t.den]) (hr := by obtain ⟨_, _, _, _, rfl, _⟩ := hv2; obtain ⟨_, _, _, _, rfl, _⟩ := hv1; kernel_rfl))) ?_
   refine zde 17 (xsw 2 st_36 hS (hd := (ones_cons hv2.one (ones_cons hv1.one (ones_cons rfl (ones_cons rfl ones_nil)))))) ?_; clear hS; rintro w hS
   replace hS := hS.n5
   refine ⟨⟨fun h => absurd h (by decide), hS.pk [0, 1]⟩, ?_⟩
   refine zdd <| zgj ⟨v2, v1, g3, hv2, hv1, rfl, hS.pk [0, 1, 4, 3, 2]⟩
  clear hS w; rintro M w ⟨v1, v2, g3, hv1, hv2, rfl, hS⟩
  refine ztn <| zsq <| zsr ?_
  refine zlv xas ?_
  refine zlt <| zbk <| zlp (fun mm M w => ∃ (i : Int) (fX : Int → Int), mm = ((t.nb - i).toNat) ∧ (0 ≤ i) ∧ (i ≤ t.nb) ∧ (fX = rdX t i.toNat) ∧ M = [(1, .pointer (some ⟨g1, 0, none⟩)), (2, .pointer (some ⟨g2, 0, none⟩)), (3, .pointer (some ⟨g3, 0, none⟩)), (4, .int .i64 i)] ∧ Sat w0 w [.blk g1 [.int .i64 t.vars, .int .i64 t.den, vB, vF, vC], .blk g2 [.slice none 0 0, .slice none 0 0, .int .i64 0, .int .i64 0], .own v1 1 3 t.vars (ints fX), .own v2 1 3 t.nb (ints (fun _ => 0)), .blk g3 [v1, v2, .int .i64 ((t.C 0) 0), .int .i64 t.den]]) ⟨0, (fun _ => 0), rfl, (by omega), (by omega), ?_, rfl, hS⟩ ?_
  ·
   rfl
  clear hS w
  rintro mm M w ⟨i, fX, rfl, h0, h1, hfX, rfl, hS⟩
  refine zsq <| zsr ?_
  refine zlv xmv ?_
  refine zlv (xfb 2 fd_175_2) ?_
  refine zlv (xlb 0 pl_22 hS) ?_
  refine zlv (xln sl_22 hT.B.slh) ?_
  refine zlv xlss ?_
  refine zlt ?_
  refine zcif ?_ ?_ <;> intro hc
  ·
   refine zsk <| ztn <| zsq <| zbk <| zsq ?_
   refine zdst [0, 1, 2, 3, 4] [0, 1, 2, 3, 4] 1000 mx_ hS ?_; clear hS; intro w hS
   refine zdv 0 (fun _ => (xfb 2 fd_175_2)) ?_
   refine zdla 1 (fun w hS => (xlb 0 pl_22 hS)) ?_
   have hrg := hp.rngB (i := i) h0 (by omega); have hli := hp.len (i := i + 1) (by omega) (by omega)
   refine zdv 2 (fun _ => xmv) ?_
   refine zdv 3 (fun _ => (xix (kk := i) sl_22 hT.B.slh)) ?_
   refine zdla 4 (fun w hS => (xlr (u := .int .i64 (t.B i)) pl_3 (hT.B.below hS.below))) ?_
   refine zdv 5 (fun _ => (xfb 0 fd_175_0)) ?_
   refine zdla 6 (fun w hS => (xlb 0 pl_3 hS)) ?_
   refine zdv 7 (fun _ => xlss) ?_
   refine zdd <| ztn ?_
   refine zcif ?_ ?_ <;> intro hc
   ·
    refine zdst [0, 1, 2, 3, 4] [0, 1, 3, 4] 16 mx_ hS ?_; clear hS; intro w hS
    refine zdv 0 (fun _ => (xfb 0 fd_36_0)) ?_
    refine zdla 1 (fun w hS => (xlb 3 pl_22 hS)) ?_
    refine zdv 2 (fun _ => (xfb 2 fd_175_2)) ?_
    refine zdla 3 (fun w hS => (xlb 0 pl_22 hS)) ?_
    refine zdv 4 (fun _ => xmv) ?_
    refine zdv 5 (fun _ => (xix (kk := i) sl_22 hT.B.slh)) ?_
    refine zdla 6 (fun w hS => (xlr (u := .int .i64 (t.B i)) pl_3 (hT.B.below hS.below))) ?_
    refine zdv 7 (fun _ => (xfb 4 fd_175_4)) ?_
    refine zdla 8 (fun w hS => (xlb 0 pl_27 hS)) ?_
    refine zdv 9 (fun _ => xmv) ?_
    refine zdv 10 (fun _ => (xadd (r := i + 1))) ?_
    refine zdv 11 (fun _ => (xix (kk := i + 1) sl_27 hT.C.row.slh)) ?_
    refine zdla 12 (fun w hS => (xlr (u := (vv (i + 1))) pl_22 (hT.C.row.below hS.below))) ?_
    refine zdv 13 (fun _ => (xix (kk := 0) sl_22 (hT.C.p (i + 1) (by omega) (by omega)).slh)) ?_
    refine zdla 14 (fun w hS => (xlr (u := .int .i64 ((t.C (i + 1)) 0)) pl_3 ((hT.C.p (i + 1) (by omega) (by omega)).below hS.below))) ?_
    refine zdv 15 (fun _ => (xix (kk := (t.B i)) sl_22 hv1)) ?_
    refine zde 16 (xso 2 pl_3 hS (upd_ints _ _ _)) ?_; clear hS; rintro w hS
    replace hS := hS.n5
    refine ⟨⟨fun h => absurd h (by decide), hS.pk [0, 1, 3, 4]⟩, ?_⟩
    refine zdd <| zbn <| ztn <| zrg ?_
    refine zlv xmv ?_
    refine zlv (xadd (r := i + 1)) ?_
    refine zlv xas ?_
    refine zln <| zlq ⟨i + 1, (upd fX (t.B i) ((t.C (i + 1)) 0)), rfl, (by omega), (by omega), ?_, rfl, hS⟩
    ·
     rw [rdX_next t h0, ← hfX]; first | rw [if_pos (by omega)] | rw [if_neg (by omega)]
   refine zsk <| zbn <| ztn <| zrg ?_
   refine zlv xmv ?_
   refine zlv (xadd (r := i + 1)) ?_
   refine zlv xas ?_
   refine zln <| zlq ⟨i + 1, fX, rfl, (by omega), (by omega), ?_, rfl, hS⟩
   ·
    rw [rdX_next t h0, ← hfX]; first | rw [if_pos (by omega)] | rw [if_neg (by omega)]
  refine zxt <| ztx <| ztx <| zbh <| ztn <| zsq <| zsr ?_
  refine zlv xas ?_
  refine zlt <| zbk <| zlp (fun mm M w => ∃ (j : Int) (fY : Int → Int), mm = ((t.nf - j).toNat) ∧ (0 ≤ j) ∧ (j ≤ t.nf) ∧ (fY = rdY t j.toNat) ∧ M = [(1, .pointer (some ⟨g1, 0, none⟩)), (2, .pointer (some ⟨g2, 0, none⟩)), (3, .pointer (some ⟨g3, 0, none⟩)), (5, .int .i64 j)] ∧ Sat w0 w [.blk g1 [.int .i64 t.vars, .int .i64 t.den, vB, vF, vC], .blk g2 [.slice none 0 0, .slice none 0 0, .int .i64 0, .int .i64 0], .own v1 1 3 t.vars (ints fX), .own v2 1 3 t.nb (ints fY), .blk g3 [v1, v2, .int .i64 ((t.C 0) 0), .int .i64 t.den]]) ⟨0, (fun _ => 0), rfl, (by omega), (by omega), ?_, rfl, hS⟩ ?_
  ·
   rfl
  clear hS w
  rintro mm M w ⟨j, fY, rfl, j0, j1, hfY, rfl, hS⟩
  refine zsq <| zsr ?_
  refine zlv xmv ?_
  refine zlv (xfb 3 fd_175_3) ?_
  refine zlv (xlb 0 pl_22 hS) ?_
  refine zlv (xln sl_22 hT.F.slh) ?_
  refine zlv xlss ?_
  refine zlt ?_
  refine zcif ?_ ?_ <;> intro hc
  ·
   refine zsk <| ztn <| zsq <| zbk <| zsq ?_
   refine zdst [0, 1, 2, 3, 4] [0, 1, 2, 3, 4] 1000 mx_ hS ?_; clear hS; intro w hS
   refine zdv 0 (fun _ => (xfb 3 fd_175_3)) ?_
   have hrg := hp.rngF (i := j) j0 (by omega) (by omega)
   refine zdla 1 (fun w hS => (xlb 0 pl_22 hS)) ?_
   refine zdv 2 (fun _ => xmv) ?_
   refine zdv 3 (fun _ => (xix (kk := j) sl_22 hT.F.slh)) ?_
   refine zdla 4 (fun w hS => (xlr (u := .int .i64 (t.F j)) pl_3 (hT.F.below hS.below))) ?_
   refine zdv 5 (fun _ => (xfb 0 fd_175_0)) ?_
   refine zdla 6 (fun w hS => (xlb 0 pl_3 hS)) ?_
   refine zdv 7 (fun _ => xgeq) ?_
   refine zdd <| ztn ?_
   refine zcif ?_ ?_ <;> intro hc
   ·
    refine zdst [0, 1, 2, 3, 4] [0, 1, 2, 4] 19 mx_ hS ?_; clear hS; intro w hS
    refine zdv 0 (fun _ => (xfb 1 fd_36_1)) ?_
    refine zdla 1 (fun w hS => (xlb 3 pl_22 hS)) ?_
    refine zdv 2 (fun _ => (xfb 3 fd_175_3)) ?_
    refine zdla 3 (fun w hS => (xlb 0 pl_22 hS)) ?_
    refine zdv 4 (fun _ => xmv) ?_
    refine zdv 5 (fun _ => (xix (kk := j) sl_22 hT.F.slh)) ?_
    refine zdla 6 (fun w hS => (xlr (u := .int .i64 (t.F j)) pl_3 (hT.F.below hS.below))) ?_
    refine zdv 7 (fun _ => (xfb 0 fd_175_0)) ?_
    refine zdla 8 (fun w hS => (xlb 0 pl_3 hS)) ?_
    refine zdv 9 (fun _ => (xsub (r := (t.F j) - t.vars))) ?_
    refine zdv 10 (fun _ => (xfb 4 fd_175_4)) ?_
    refine zdla 11 (fun w hS => (xlb 0 pl_27 hS)) ?_
    refine zdv 12 (fun _ => (xix (kk := 0) sl_27 hT.C.row.slh)) ?_
    refine zdla 13 (fun w hS => (xlr (u := (vv 0)) pl_22 (hT.C.row.below hS.below))) ?_
    refine zdv 14 (fun _ => xmv) ?_
    refine zdv 15 (fun _ => (xadd (r := j + 1))) ?_
    refine zdv 16 (fun _ => (xix (kk := j + 1) sl_22 (hT.C.p 0 (by omega) (by omega)).slh)) ?_
    refine zdla 17 (fun w hS => (xlr (u := .int .i64 ((t.C 0) (j + 1))) pl_3 ((hT.C.p 0 (by omega) (by omega)).below hS.below))) ?_
    refine zdv 18 (fun _ => (xix (kk := (t.F j) - t.vars) sl_22 hv2)) ?_
    refine zde 19 (xso 3 pl_3 hS (upd_ints _ _ _)) ?_; clear hS; rintro w hS
    replace hS := hS.n5
    refine ⟨⟨fun h => absurd h (by decide), hS.pk [0, 1, 2, 4]⟩, ?_⟩
    refine zdd <| zbn <| ztn <| zrg ?_
    refine zlv xmv ?_
    refine zlv (xadd (r := j + 1)) ?_
    refine zlv xas ?_
    refine zln <| zlq ⟨j + 1, (upd fY ((t.F j) - t.vars) ((t.C 0) (j + 1))), rfl, (by omega), (by omega), ?_, rfl, hS⟩
    ·
     rw [rdY_next t j0, ← hfY]; first | rw [if_pos (by omega)] | rw [if_neg (by omega)]
   refine zsk <| zbn <| ztn <| zrg ?_
   refine zlv xmv ?_
   refine zlv (xadd (r := j + 1)) ?_
   refine zlv xas ?_
   refine zln <| zlq ⟨j + 1, fY, rfl, (by omega), (by omega), ?_, rfl, hS⟩
   ·
    rw [rdY_next t j0, ← hfY]; first | rw [if_pos (by omega)] | rw [if_neg (by omega)]
  refine zxt <| ztx <| ztx <| zbh <| ztn <| zsr ?_
  refine zlv (xls 4 st_36 hS) ?_
  refine zle (xsw 1 st_36 hS (hd := (ones_cons hv1.one (ones_cons hv2.one (ones_cons rfl (ones_cons rfl ones_nil)))))) ?_; clear hS; rintro w hS
  replace hS := hS.n5
  refine zlt <| zrt <| zfc 1 st_36 hS ⟨_, rfl, ?_⟩
  obtain rfl : i = t.nb := by omega
  obtain rfl : j = t.nf := by omega
  have hv9 := hp.v
  rw [hv9] at hv1
  replace hS := hS.pk [2, 3]; rw [hv9] at hS; subst hfX; subst hfY
  exact ⟨_, _, rfl, hv1, hv2, hS⟩

set_option maxRecDepth 20000 in
theorem c_rsolve {vc vA vb : Value} {vq : Int → Value} {p : Lp} (w0 : World) (hL : LAt w0 vc vA vb vq p) :
    Calls Tryz.prog 86 [.agg #[vc, vA, vb]].toArray w0 fun e w => ∃ v, e = .returned v ∧ ∃ vX vY s e, v = .tuple #[.agg #[vX, vY, .int .i64 s.val, .int .i64 s.den], .int .i64 e] ∧ SolveR p s e ∧ Slh vX s.n ∧ Slh vY s.m ∧ Sat w0 w [.own vX 1 3 s.n (ints s.X), .own vY 1 3 s.m (ints s.Y)] := by
  have hn := hL.c.slh.n0; have hn1 := hL.c.slh.n1; have hm := hL.A.row.slh.n0; have hm1 := hL.A.row.slh.n1; have hk := hL.b.slh.n0; have hk1 := hL.b.slh.n1
  refine zenG Tryz.func86 Tryz.ntmps86 fun w hS => ?_
  refine zsr ?_
  refine zla (xbx (cs := [_, _, _]) hS) ?_; rintro _ w ⟨g1, rfl, hS⟩
  replace hS := hS.n1
  refine zla (xal (cs := [_, _, _, _]) el_36 hS) ?_; rintro _ w ⟨g2, rfl, hS⟩
  replace hS := hS.n2
  refine zlv xas ?_
  refine zlz ?_
  refine zlv (xls 0 st_134 hS) ?_
  refine zlc (xc0 cl_124) (c_rstart (p := p) w (hL.below hS.below)) ?_; rintro _ w ⟨vBk1, vFk1, vCk1, vvk1, tk1, ek1, rfl, hstk1, hsBk1, hsFk1, hsCk1, hS'⟩
  replace hS : Sat w0 w [.blk g1 [vc, vA, vb], .blk g2 [.slice none 0 0, .slice none 0 0, .int .i64 0, .int .i64 0], .own vBk1 1 3 tk1.nb (ints tk1.B), .own vFk1 1 3 tk1.nf (ints tk1.F), .own vCk1 1 22 tk1.nc vvk1, .sem (Frame.rows 3 tk1.nc vvk1 tk1.ln tk1.C)] := hS.comp hS'; clear hS'
  have hrsk1 := fun k (k0 : 0 ≤ k) (k1 : k < tk1.nc) => hS.slhIn 5 rfl k0 k1
  refine zs3 ?_
  refine zla (xal (cs := [_, _, _, _, _]) el_175 hS) ?_; rintro _ w ⟨g3, rfl, hS⟩
  replace hS := hS.n7
  refine zle (xsw 6 st_175 hS (hd := (ones_cons rfl (ones_cons rfl (ones_cons hsBk1.one (ones_cons hsFk1.one (ones_cons hsCk1.one ones_nil))))))) ?_; clear hS; rintro w hS
  replace hS := hS.n7
  refine zlv xas ?_
  refine zlt <| zsq <| zsr ?_
  refine zs2 ?_
  refine zlt ?_
  refine zcif ?_ ?_ <;> intro hc
  ·
   refine zsr ?_
   refine zlv (xany (v := .agg #[.slice none 0 0, .slice none 0 0, .int .i64 0, .int .i64 0])) ?_
   refine zlv xmv ?_
   refine zle (xsw 1 st_36 hS) ?_; clear hS; rintro w hS
   replace hS := hS.n7
   refine zlv xas ?_
   refine zlt <| zrt <| ztr <| zfct 1 st_36 hS ⟨_, rfl, ?_⟩
   obtain ⟨hl0, hl1⟩ := hstk1.err (by omega)
   exact ⟨_, _, So.zero, _, rfl, .inl ⟨hl0, rfl, hl1⟩, slh_nil, slh_nil, ((hS.sub (.cons _ (.cons _ (.cons _ (.cons _ (.cons _ (.cons _ (.cons _ .slnil)))))))).addnil 1 3 (ints So.zero.X)).addnil 1 3 (ints So.zero.Y)⟩
  refine zsk <| ztn <| zsr ?_
  refine zlv (xls 6 st_175 hS) ?_
  refine zlc (xc0 cl_125) (c_rrun (t := tk1) w (⟨(hS.rowN 2 rfl), (hS.rowN 3 rfl), (⟨(hS.rowN 4 rfl), fun k k0 k1 => hS.rowIn 5 rfl k0 k1, fun k k0 k1 => hS.roomIn 5 rfl k0 k1⟩ : MAt _ vCk1 tk1.nc vvk1 tk1.ln tk1.C)⟩ : TAt _ vBk1 vFk1 vCk1 vvk1 tk1)) ?_; rintro _ w ⟨xBu1, xFu1, xCu1, xvu1, uu1, zuu1, euu1, rfl, hrunu1, hzzu1, hxBu1, hxFu1, hxCu1, hS'⟩
  replace hS : Sat w0 w [.blk g1 [vc, vA, vb], .blk g2 [.slice none 0 0, .slice none 0 0, .int .i64 0, .int .i64 0], .own vBk1 1 3 tk1.nb (ints tk1.B), .own vFk1 1 3 tk1.nf (ints tk1.F), .own vCk1 1 22 tk1.nc vvk1, .sem (Frame.rows 3 tk1.nc vvk1 tk1.ln tk1.C), .blk g3 [.int .i64 tk1.vars, .int .i64 tk1.den, vBk1, vFk1, vCk1], .sem (Frame.alt (uu1 = tk1 ∧ xBu1 = vBk1 ∧ xFu1 = vFk1 ∧ xCu1 = vCk1 ∧ xvu1 = vvk1) (Frame.bun [.own xBu1 1 3 uu1.nb (ints uu1.B), .own xFu1 1 3 uu1.nf (ints uu1.F), .own xCu1 1 22 uu1.nc xvu1, .sem (Frame.rows 3 uu1.nc xvu1 uu1.ln uu1.C)]))] := hS.comp hS'; clear hS'
  have hxru1 := fun k (k0 : 0 ≤ k) (k1 : k < uu1.nc) => ((tat_alt (⟨(hS.rowN 2 rfl), (hS.rowN 3 rfl), (⟨(hS.rowN 4 rfl), fun k k0 k1 => hS.rowIn 5 rfl k0 k1, fun k k0 k1 => hS.roomIn 5 rfl k0 k1⟩ : MAt _ vCk1 tk1.nc vvk1 tk1.ln tk1.C)⟩ : TAt _ vBk1 vFk1 vCk1 vvk1 tk1) hS 7 rfl).C.p k k0 k1).slh
  refine zs3 ?_
  refine zle (xsw 6 st_175 hS (hd := (ones_cons rfl (ones_cons rfl (ones_cons hxBu1.one (ones_cons hxFu1.one (ones_cons hxCu1.one ones_nil))))))) ?_; clear hS; rintro w hS
  replace hS := hS.n8
  refine zlv xas ?_
  refine zlt <| zsq <| zsr ?_
  refine zs2 ?_
  refine zlt ?_
  refine zcif ?_ ?_ <;> intro hc
  ·
   refine zsr ?_
   refine zlv (xany (v := .agg #[.slice none 0 0, .slice none 0 0, .int .i64 0, .int .i64 0])) ?_
   refine zlv xmv ?_
   refine zle (xsw 1 st_36 hS) ?_; clear hS; rintro w hS
   replace hS := hS.n8
   refine zlv xas ?_
   refine zlt <| zrt <| ztr <| zfct 1 st_36 hS ⟨_, rfl, ?_⟩
   obtain ⟨hl, hts⟩ := hstk1.ok (by omega); rw [hts] at hrunu1
   exact ⟨_, _, So.zero, _, rfl, .inr ⟨hl, _, hrunu1, .inl ⟨by omega, rfl⟩⟩, slh_nil, slh_nil, ((hS.sub (.cons _ (.cons _ (.cons _ (.cons _ (.cons _ (.cons _ (.cons _ (.cons _ .slnil))))))))).addnil 1 3 (ints So.zero.X)).addnil 1 3 (ints So.zero.Y)⟩
  refine zsk <| ztn <| zsr ?_
  refine zlv (xls 6 st_175 hS) ?_
  have hzq := hzzu1 (.inl (by omega)); rw [hzq] at hrunu1
  obtain ⟨hp, _, _, _⟩ := hrunu1.fin (.inl (by omega))
  have b1 := hp.n1
  have b2 := hp.n2
  have b3 := hp.m2
  have b4 := hp.v
  have b5 := hp.d1
  have b6 := hp.d2
  have b7 := hp.c
  refine zlc (xc0 cl_126) (c_read (t := uu1) w (tat_alt (⟨(hS.rowN 2 rfl), (hS.rowN 3 rfl), (⟨(hS.rowN 4 rfl), fun k k0 k1 => hS.rowIn 5 rfl k0 k1, fun k k0 k1 => hS.roomIn 5 rfl k0 k1⟩ : MAt _ vCk1 tk1.nc vvk1 tk1.ln tk1.C)⟩ : TAt _ vBk1 vFk1 vCk1 vvk1 tk1) hS 7 rfl) hp) ?_; rintro _ w ⟨rXr1, rYr1, rfl, hrXr1, hrYr1, hS'⟩
  replace hS : Sat w0 w [.blk g1 [vc, vA, vb], .blk g2 [.slice none 0 0, .slice none 0 0, .int .i64 0, .int .i64 0], .own vBk1 1 3 tk1.nb (ints tk1.B), .own vFk1 1 3 tk1.nf (ints tk1.F), .own vCk1 1 22 tk1.nc vvk1, .sem (Frame.rows 3 tk1.nc vvk1 tk1.ln tk1.C), .blk g3 [.int .i64 uu1.vars, .int .i64 uu1.den, xBu1, xFu1, xCu1], .sem (Frame.alt (uu1 = tk1 ∧ xBu1 = vBk1 ∧ xFu1 = vFk1 ∧ xCu1 = vCk1 ∧ xvu1 = vvk1) (Frame.bun [.own xBu1 1 3 uu1.nb (ints uu1.B), .own xFu1 1 3 uu1.nf (ints uu1.F), .own xCu1 1 22 uu1.nc xvu1, .sem (Frame.rows 3 uu1.nc xvu1 uu1.ln uu1.C)])), .own rXr1 1 3 uu1.nf (ints (rdX uu1 uu1.nb.toNat)), .own rYr1 1 3 uu1.nb (ints (rdY uu1 uu1.nf.toNat))] := hS.comp hS'; clear hS'
  refine zle (xsw 1 st_36 hS (hd := (ones_cons hrXr1.one (ones_cons hrYr1.one (ones_cons rfl (ones_cons rfl ones_nil)))))) ?_; clear hS; rintro w hS
  replace hS := hS.n10
  refine zlv xas ?_
  refine zlt <| zrt <| zfct 1 st_36 hS ⟨_, rfl, ?_⟩
  have he0 : euu1 = 0 := by omega
  obtain ⟨hl, hts⟩ := hstk1.ok (by omega); rw [hts, he0] at hrunu1
  exact ⟨_, _, readS uu1, 0, rfl, .inr ⟨hl, uu1, hrunu1, .inr ⟨rfl, rfl⟩⟩, hrXr1, hrYr1, hS.pk [8, 9]⟩

def SameS (s u : So) : Prop := (s.n = u.n ∧ ∀ k, 0 ≤ k → k < s.n → s.X k = u.X k) ∧ (s.m = u.m ∧ ∀ k, 0 ≤ k → k < s.m → s.Y k = u.Y k) ∧ s.val = u.val ∧ s.den = u.den
theorem SameS.refl (s : So) : SameS s s := ⟨⟨rfl, fun _ _ _ => rfl⟩, ⟨rfl, fun _ _ _ => rfl⟩, rfl, rfl⟩

set_option maxRecDepth 20000 in
theorem c_samesol {vX vY : Value} {s : So} {xX xY : Value} {u : So} (w0 : World) (hX : Row w0 vX 1 s.n (ints s.X)) (hY : Row w0 vY 1 s.m (ints s.Y)) (hX2 : Row w0 xX 1 u.n (ints u.X)) (hY2 : Row w0 xY 1 u.m (ints u.Y)) :
    Calls Tryz.prog 14 [.agg #[vX, vY, .int .i64 s.val, .int .i64 s.den], .agg #[xX, xY, .int .i64 u.val, .int .i64 u.den]].toArray w0 fun e w => ∃ v, e = .returned v ∧ v = B (SameS s u) ∧ Sat w0 w [] := by
  refine zenG Tryz.func14 Tryz.ntmps14 fun w hS => ?_
  refine zsr ?_
  refine zla (xbx (cs := [_, _, _, _]) hS) ?_; rintro _ w ⟨g1, rfl, hS⟩
  replace hS := hS.n1
  refine zla (xbx (cs := [_, _, _, _]) hS) ?_; rintro _ w ⟨g2, rfl, hS⟩
  replace hS := hS.n2
  refine zlv xas ?_
  refine zlz ?_
  refine zlv (xfb 0 fd_36_0) ?_
  refine zlv (xlb 0 pl_22 hS) ?_
  refine zlv (xfb 0 fd_36_0) ?_
  refine zlv (xlb 1 pl_22 hS) ?_
  refine zlc (xc0 cl_52) (c_same0 (n := s.n) (m := u.n) (f := s.X) (g := u.X) w (hX.below hS.below) (hX2.below hS.below)) ?_; rintro _ w ⟨rfl, hS'⟩
  replace hS := hS.cmp hS'; clear hS'
  refine zlv xmv ?_
  refine zlb 10 ?_ ?_ <;> intro hc
  ·
   refine zlv (xfb 1 fd_36_1) ?_
   refine zlv (xlb 0 pl_22 hS) ?_
   refine zlv (xfb 1 fd_36_1) ?_
   refine zlv (xlb 1 pl_22 hS) ?_
   refine zlc (xc0 cl_52) (c_same0 (n := s.m) (m := u.m) (f := s.Y) (g := u.Y) w (hY.below hS.below) (hY2.below hS.below)) ?_; rintro _ w ⟨rfl, hS'⟩
   replace hS := hS.cmp hS'; clear hS'
   refine zs2 ?_
   refine zlb 17 ?_ ?_ <;> intro hc
   ·
    refine zlv (xfb 2 fd_36_2) ?_
    refine zlv (xlb 0 pl_3 hS) ?_
    refine zlv (xfb 2 fd_36_2) ?_
    refine zlv (xlb 1 pl_3 hS) ?_
    refine zs3 ?_
    refine zlb 24 ?_ ?_ <;> intro hc
    ·
     refine zlv (xfb 3 fd_36_3) ?_
     refine zlv (xlb 0 pl_3 hS) ?_
     refine zlv (xfb 3 fd_36_3) ?_
     refine zlv (xlb 1 pl_3 hS) ?_
     refine zs3 ?_
     refine zlt <| zrt <| zf1 ⟨_, rfl, ?_⟩
     exact ⟨B_congr ⟨fun hx => ⟨by first | assumption | exact Classical.not_not.1 ‹¬ ¬ (s.n = u.n ∧ ∀ k, 0 ≤ k → k < s.n → s.X k = u.X k)›, by first | assumption | exact Classical.not_not.1 ‹¬ ¬ (s.m = u.m ∧ ∀ k, 0 ≤ k → k < s.m → s.Y k = u.Y k)›, by omega, by omega⟩, fun h => by have h1 := h.2.2.1; have h2 := h.2.2.2; omega⟩, hS.nl⟩
    iterate 5 refine zlo ?_
    refine zs2 ?_
    refine zlt <| zrt <| zf1 ⟨_, rfl, ?_⟩
    exact ⟨false_B (by rintro ⟨h1, h2, h3, h4⟩; first | omega | exact absurd h1 ‹¬ (s.n = u.n ∧ ∀ k, 0 ≤ k → k < s.n → s.X k = u.X k)› | exact absurd h2 ‹¬ (s.m = u.m ∧ ∀ k, 0 ≤ k → k < s.m → s.Y k = u.Y k)›), hS.nl⟩
   iterate 5 refine zlo ?_
   refine zs2 ?_
   iterate 5 refine zlo ?_
   refine zs2 ?_
   refine zlt <| zrt <| zf1 ⟨_, rfl, ?_⟩
   exact ⟨false_B (by rintro ⟨h1, h2, h3, h4⟩; first | omega | exact absurd h1 ‹¬ (s.n = u.n ∧ ∀ k, 0 ≤ k → k < s.n → s.X k = u.X k)› | exact absurd h2 ‹¬ (s.m = u.m ∧ ∀ k, 0 ≤ k → k < s.m → s.Y k = u.Y k)›), hS.nl⟩
  iterate 5 refine zlo ?_
  refine zs2 ?_
  iterate 5 refine zlo ?_
  refine zs2 ?_
  iterate 5 refine zlo ?_
  refine zs2 ?_
  refine zlt <| zrt <| zf1 ⟨_, rfl, ?_⟩
  exact ⟨false_B (by rintro ⟨h1, h2, h3, h4⟩; first | omega | exact absurd h1 ‹¬ (s.n = u.n ∧ ∀ k, 0 ≤ k → k < s.n → s.X k = u.X k)› | exact absurd h2 ‹¬ (s.m = u.m ∧ ∀ k, 0 ≤ k → k < s.m → s.Y k = u.Y k)›), hS.nl⟩

end Go.Proofs.YtopmifmfecfaaaaGreat
