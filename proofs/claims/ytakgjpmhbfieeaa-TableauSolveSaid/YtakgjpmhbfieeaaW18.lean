/- The walk of TableauProof. -/
import Derived.Test.YtakgjpmhbfieeaaGc
import Derived.Test.YtakgjpmhbfieeaaW16
namespace Go.Proofs.Ytakgjpmhbfieeaa
open Go Go.RowKit Go.Proofs.Gw
set_option linter.unusedVariables false

theorem cl_30 : calledT Try.prog 30 = true := by kernel_rfl
theorem cl_31 : calledT Try.prog 31 = true := by kernel_rfl
theorem cl_56 : calledT Try.prog 56 = true := by kernel_rfl
theorem st_37 : structT Try.prog 37 = some 4 := by kernel_rfl
set_option maxRecDepth 20000 in
theorem c_proves {vc vA vb : Value} {vq : Int → Value} {p : Lp} {vy : Value} {y : Int → Int} {my : Int} (w0 : World) (hL : LAt w0 vc vA vb vq p) (hy : Row w0 vy 1 my (ints y)) :
    Calls Try.prog 30 [.agg #[vc, vA, vb], vy].toArray w0 fun e w => ∃ v, e = .returned v ∧ v = B (LOk p ∧ my = p.m ∧ RefS p y) ∧ Sat w0 w [] := by
  have hn := hL.c.slh.n0; have hn1 := hL.c.slh.n1; have hm := hL.A.row.slh.n0; have hm1 := hL.A.row.slh.n1; have hk := hL.b.slh.n0; have hk1 := hL.b.slh.n1
  refine zenG Try.func30 Try.ntmps30 fun w hS => ?_
  refine zsq <| zrg ?_
  refine zla (xbx (cs := [_, _, _]) hS) ?_; rintro _ w ⟨g1, rfl, hS⟩
  replace hS : Sat w0 w [.blk _ [_, _, _]] := hS
  refine zlv xas ?_
  refine zln <| ztn <| zsq <| zrg ?_
  refine zlv (xls 0 st_34 hS) ?_
  refine zlc (xc0 cl_36) (c_valid (p := p) w (hL.below hS.below)) ?_; rintro _ w ⟨rfl, hS'⟩
  replace hS := hS.cmp hS'; clear hS'
  refine zlv xmv ?_
  refine zlb 7 ?_ ?_ <;> intro hc
  ·
   refine zlv xmv ?_
   refine zlv (xfb 1 fd_34_1) ?_
   refine zlv (xlb 0 pl_23 hS) ?_
   refine zlv (xln sl_23 hL.A.row.slh) ?_
   refine zlc (xc0 cl_44) (c_positive (m := my) (n := p.m) (f := y) w (hy.below hS.below)) ?_; rintro _ w ⟨rfl, hS'⟩
   replace hS := hS.cmp hS'; clear hS'
   refine zlv xpt ?_
   refine zlv xmv ?_
   refine zlb 14 ?_ ?_ <;> intro hc
   ·
    refine zlv (xls 0 st_34 hS) ?_
    refine zlv xmv ?_
    have hl : LOk p := by first | assumption | exact Classical.not_not.1 ‹¬ ¬ (LOk p)›
    have b1 := hl.n1
    have b2 := hl.n2
    have b3 := hl.m2
    have b4 := hl.k
    have hpy : my = p.m ∧ ∀ k, 0 ≤ k → k < p.m → 0 ≤ y k ∧ y k ≤ 1073741824 := by first | assumption | exact Classical.not_not.1 ‹¬ ¬ (my = p.m ∧ ∀ k, 0 ≤ k → k < p.m → 0 ≤ y k ∧ y k ≤ 1073741824)›
    have hpy1 := hpy.1
    have hyb : ∀ k, 0 ≤ k → k < p.m → -1073741824 ≤ y k ∧ y k ≤ 1073741824 := fun k k0 k1 => by have := hpy.2 k k0 k1; omega
    refine zlc (xc0 cl_46) (c_weighed (p := p) (y := y) w (hL.below hS.below) hl (by have hh := (hy.below hS.below); rw [hpy1] at hh; exact hh) hyb) ?_; rintro vq1 w ⟨_, rfl, hslq1, hS'⟩
    replace hS : Sat w0 w [.blk g1 [vc, vA, vb], .own vq1 1 3 p.n (ints (wgt p.A y p.m.toNat))] := hS.comp hS'; clear hS'
    refine zlc (xc0 cl_56) (c_max (n := p.n) (f := (wgt p.A y p.m.toNat)) w (hS.rowN 1 rfl) (by omega)) ?_; rintro _ w ⟨x1, rfl, hex1, hax1, hS'⟩
    replace hS := hS.cmp hS'; clear hS'
    refine zlv xleq ?_
    refine zlv xpt ?_
    refine zlv xmv ?_
    refine zlb 21 ?_ ?_ <;> intro hc
    ·
     refine zlv (xfb 2 fd_34_2) ?_
     refine zlv (xlb 0 pl_22 hS) ?_
     refine zlv xmv ?_
     refine zlc (xc0 cl_45) (c_product (n := p.k) (f := p.b) (m := my) (g := y) w (hL.b.below hS.below) (hy.below hS.below) (by omega) (by omega) (fun k k0 k1 => hl.b k k0 (by omega)) (fun k k0 k1 => by have := hpy.2 k k0 (by omega); omega)) ?_; rintro _ w ⟨rfl, hS'⟩
     replace hS := hS.cmp hS'; clear hS'
     refine zlv xgtr ?_
     refine zlv xpt ?_
     refine zlv xas ?_
     refine zln <| ztn <| zrt <| zf1 ⟨_, rfl, ?_⟩
     exact ⟨B_congr ⟨fun hx => ⟨hl, hpy.1, hpy.2, fun j j0 j1 => by have := hax1 j j0 j1; omega, by rw [← b4]; omega⟩, fun h => by have h4 := h.2.2.pos; rw [← b4] at h4; omega⟩, hS.nl⟩
    ·
     iterate 5 refine zlo ?_
     refine zlv xpf ?_
     refine zlv xas ?_
     refine zln <| ztn <| zrt <| zf1 ⟨_, rfl, ?_⟩
     exact ⟨false_B (by rintro ⟨h1, h2, h3⟩; have h4 := h3.pos; first | exact absurd h1 ‹¬ LOk p› | exact absurd ⟨h2, h3.rng⟩ ‹¬ (my = p.m ∧ ∀ k, 0 ≤ k → k < p.m → 0 ≤ y k ∧ y k ≤ 1073741824)› | omega | (obtain ⟨q, q0, q1, q2⟩ := hex1; have := h3.cols q q0 q1; omega)), hS.nl⟩
   ·
    iterate 5 refine zlo ?_
    refine zlv xpf ?_
    refine zlv xmv ?_
    iterate 5 refine zlo ?_
    refine zlv xpf ?_
    refine zlv xas ?_
    refine zln <| ztn <| zrt <| zf1 ⟨_, rfl, ?_⟩
    exact ⟨false_B (by rintro ⟨h1, h2, h3⟩; have h4 := h3.pos; first | exact absurd h1 ‹¬ LOk p› | exact absurd ⟨h2, h3.rng⟩ ‹¬ (my = p.m ∧ ∀ k, 0 ≤ k → k < p.m → 0 ≤ y k ∧ y k ≤ 1073741824)› | omega | (obtain ⟨q, q0, q1, q2⟩ := hex1; have := h3.cols q q0 q1; omega)), hS.nl⟩
  ·
   iterate 5 refine zlo ?_
   refine zlv xpf ?_
   refine zlv xmv ?_
   iterate 5 refine zlo ?_
   refine zlv xpf ?_
   refine zlv xmv ?_
   iterate 5 refine zlo ?_
   refine zlv xpf ?_
   refine zlv xas ?_
   refine zln <| ztn <| zrt <| zf1 ⟨_, rfl, ?_⟩
   exact ⟨false_B (by rintro ⟨h1, h2, h3⟩; have h4 := h3.pos; first | exact absurd h1 ‹¬ LOk p› | exact absurd ⟨h2, h3.rng⟩ ‹¬ (my = p.m ∧ ∀ k, 0 ≤ k → k < p.m → 0 ≤ y k ∧ y k ≤ 1073741824)› | omega | (obtain ⟨q, q0, q1, q2⟩ := hex1; have := h3.cols q q0 q1; omega)), hS.nl⟩

set_option maxRecDepth 20000 in
theorem c_rproves {vc vA vb : Value} {vq : Int → Value} {p : Lp} {vy : Value} {y : Int → Int} {my : Int} (w0 : World) (hL : LAt w0 vc vA vb vq p) (hy : Row w0 vy 1 my (ints y)) :
    Calls Try.prog 31 [.agg #[vc, vA, vb], vy].toArray w0 fun e w => ∃ v, e = .returned v ∧ v = B (LOk p ∧ my = p.m ∧ RefS p y) ∧ Sat w0 w [] := by
  have hn := hL.c.slh.n0; have hn1 := hL.c.slh.n1; have hm := hL.A.row.slh.n0; have hm1 := hL.A.row.slh.n1; have hk := hL.b.slh.n0; have hk1 := hL.b.slh.n1
  refine zenG Try.func31 Try.ntmps31 fun w hS => ?_
  refine zsq <| zrg ?_
  refine zla (xbx (cs := [_, _, _]) hS) ?_; rintro _ w ⟨g1, rfl, hS⟩
  replace hS : Sat w0 w [.blk _ [_, _, _]] := hS
  refine zlv xas ?_
  refine zln <| ztn <| zsq <| zsq <| zrg ?_
  refine zlv (xls 0 st_25 hS) ?_
  refine zlc (xc0 cl_14) (c_rvalid (p := p) w (hL.below hS.below)) ?_; rintro _ w ⟨rfl, hS'⟩
  replace hS := hS.cmp hS'; clear hS'
  refine zlv xnot ?_
  refine zlv xmv ?_
  refine zlb 9 ?_ ?_ <;> intro hc
  ·
   iterate 6 refine zlo ?_
   refine zlv xpt ?_
   refine zlv xmv ?_
   iterate 3 refine zlo ?_
   refine zlv xpt ?_
   refine zln <| ztn <| zct <| zsq <| zrg ?_
   refine zlv xas ?_
   refine zln <| ztn <| zrt <| ztr <| zf1 ⟨_, rfl, ?_⟩
   exact ⟨false_B (by rintro ⟨h1, h2, h3⟩; have h4 := h3.pos; first | exact absurd h1 ‹¬ LOk p› | exact absurd (fun k k0 k1 => h3.rng k k0 (by omega)) ‹¬ (∀ k, 0 ≤ k → k < my → 0 ≤ y k ∧ y k ≤ 1073741824)› | omega | (have e7 := h3.cols j j0 (by omega); rw [wgt_dotp] at e7; omega)), hS.nl⟩
  ·
   refine zlv xmv ?_
   refine zlv (xln sl_22 hy.slh) ?_
   refine zlv (xfb 1 fd_25_1) ?_
   refine zlv (xlb 0 pl_23 hS) ?_
   refine zlv (xln sl_23 hL.A.row.slh) ?_
   refine zlv xneq ?_
   refine zlv xpf ?_
   refine zlv xmv ?_
   refine zlb 17 ?_ ?_ <;> intro hc
   ·
    iterate 3 refine zlo ?_
    refine zlv xpt ?_
    refine zln <| ztn <| zct <| zsq <| zrg ?_
    refine zlv xas ?_
    refine zln <| ztn <| zrt <| ztr <| zf1 ⟨_, rfl, ?_⟩
    exact ⟨false_B (by rintro ⟨h1, h2, h3⟩; have h4 := h3.pos; first | exact absurd h1 ‹¬ LOk p› | exact absurd (fun k k0 k1 => h3.rng k k0 (by omega)) ‹¬ (∀ k, 0 ≤ k → k < my → 0 ≤ y k ∧ y k ≤ 1073741824)› | omega | (have e7 := h3.cols j j0 (by omega); rw [wgt_dotp] at e7; omega)), hS.nl⟩
   ·
    refine zlv xmv ?_
    refine zlc (xc0 cl_39) (c_within (n := my) (lo := 0) (hi := 1073741824) (f := y) w (hy.below hS.below)) ?_; rintro _ w ⟨rfl, hS'⟩
    replace hS := hS.cmp hS'; clear hS'
    refine zlv xnot ?_
    refine zlv xpf ?_
    refine zln <| ztn ?_
    refine zcif ?_ ?_ <;> intro hc
    ·
     refine zsq <| zrg ?_
     refine zlv xas ?_
     refine zln <| ztn <| zrt <| ztr <| zf1 ⟨_, rfl, ?_⟩
     exact ⟨false_B (by rintro ⟨h1, h2, h3⟩; have h4 := h3.pos; first | exact absurd h1 ‹¬ LOk p› | exact absurd (fun k k0 k1 => h3.rng k k0 (by omega)) ‹¬ (∀ k, 0 ≤ k → k < my → 0 ≤ y k ∧ y k ≤ 1073741824)› | omega | (have e7 := h3.cols j j0 (by omega); rw [wgt_dotp] at e7; omega)), hS.nl⟩
    ·
     refine zsk <| ztn <| zsq <| zsq <| zrg ?_
     refine zlv xas ?_
     refine zln <| ztn <| zbk ?_
     have hl : LOk p := by first | assumption | exact Classical.not_not.1 ‹¬ ¬ (LOk p)›
     have b1 := hl.n1
     have b2 := hl.n2
     have b3 := hl.m2
     have b4 := hl.k
     have hwy : ∀ k, 0 ≤ k → k < my → 0 ≤ y k ∧ y k ≤ 1073741824 := by first | assumption | exact Classical.not_not.1 ‹¬ ¬ (∀ k, 0 ≤ k → k < my → 0 ≤ y k ∧ y k ≤ 1073741824)›
     have hpy : ∀ k, 0 ≤ k → k < p.m → 0 ≤ y k ∧ y k ≤ 1073741824 := fun k k0 k1 => hwy k k0 (by omega)
     refine zlp (fun mm M w => ∃ (j : Int), mm = ((p.n - j).toNat) ∧ (0 ≤ j) ∧ (j ≤ p.n) ∧ (∀ k, 0 ≤ k → k < j → wgt p.A y p.m.toNat k ≤ 0) ∧ M = [(1, vy), (2, .pointer (some ⟨g1, 0, none⟩)), (5, .int .i64 j)] ∧ Sat w0 w [.blk g1 [vc, vA, vb]]) ⟨0, rfl, (by omega), (by omega), ?_, rfl, hS⟩ ?_
     ·
      intro k k0 k1; omega
     ·
      clear hS w
      rintro mm M w ⟨j, rfl, j0, j1, hcw, rfl, hS⟩
      refine zsq <| zsq <| zrg ?_
      refine zlv xmv ?_
      refine zlv (xfb 0 fd_25_0) ?_
      refine zlv (xlb 0 pl_22 hS) ?_
      refine zlv (xln sl_22 hL.c.slh) ?_
      refine zlv xlss ?_
      refine zln <| ztn ?_
      refine zcif ?_ ?_ <;> intro hc
      ·
       refine zsk <| ztn <| zsq <| zbk <| zsq <| zrg ?_
       refine zlv (xls 0 st_25 hS) ?_
       refine zlv xmv ?_
       refine zlc (xc0 cl_42) (c_column (p := p) (j := j) w (hL.below hS.below) hl (by omega) (by omega)) ?_; rintro vq1 w ⟨_, rfl, hslq1, hS'⟩
       replace hS : Sat w0 w [.blk g1 [vc, vA, vb], .own vq1 1 3 p.m (ints (fun i => p.A i j))] := hS.comp hS'; clear hS'
       refine zlv xmv ?_
       refine zlc (xc0 cl_41) (c_dot (n := p.m) (f := (fun i => p.A i j)) (m := my) (g := y) w (hS.rowN 1 rfl) (hy.below hS.below) (by omega) (by omega) (fun k k0 k1 => (hl.rows k k0 (by omega)).2 j j0 (by omega)) (fun k k0 k1 => by have := hpy k k0 (by omega); omega)) ?_; rintro _ w ⟨rfl, hS'⟩
       replace hS := hS.cmp hS'; clear hS'
       refine zlv xgtr ?_
       refine zln <| ztn ?_
       refine zcif ?_ ?_ <;> intro hc
       ·
        refine zsq <| zrg ?_
        refine zlv xas ?_
        refine zln <| ztn <| zrt <| zbr <| ztr <| ztr <| zbr <| ztr <| zf1 ⟨_, rfl, ?_⟩
        exact ⟨false_B (by rintro ⟨h1, h2, h3⟩; have h4 := h3.pos; first | exact absurd h1 ‹¬ LOk p› | exact absurd (fun k k0 k1 => h3.rng k k0 (by omega)) ‹¬ (∀ k, 0 ≤ k → k < my → 0 ≤ y k ∧ y k ≤ 1073741824)› | omega | (have e7 := h3.cols j j0 (by omega); rw [wgt_dotp] at e7; omega)), hS.nl⟩
       ·
        refine zsk <| zbn <| ztn <| zrg ?_
        refine zlv xmv ?_
        refine zlv (xadd (r := j + 1)) ?_
        refine zlv xas ?_
        refine zln <| zlq ⟨j + 1, rfl, (by omega), (by omega), ?_, rfl, hS.pk [0]⟩
        ·
         intro k k0 k1; rcases Int.lt_or_eq_of_le (show k ≤ j by omega) with hk | hk; exact hcw k k0 hk; rw [hk, wgt_dotp]; omega
      ·
       refine zxt <| ztx <| ztx <| zbh <| ztn <| zsq <| zrg ?_
       refine zlv (xfb 2 fd_25_2) ?_
       refine zlv (xlb 0 pl_22 hS) ?_
       refine zlv xmv ?_
       refine zlc (xc0 cl_41) (c_dot (n := p.k) (f := p.b) (m := my) (g := y) w (hL.b.below hS.below) (hy.below hS.below) (by omega) (by omega) (fun k k0 k1 => hl.b k k0 (by omega)) (fun k k0 k1 => by have := hpy k k0 (by omega); omega)) ?_; rintro _ w ⟨rfl, hS'⟩
       replace hS := hS.cmp hS'; clear hS'
       refine zlv xgtr ?_
       refine zlv xas ?_
       refine zln <| ztn <| zrt <| zf1 ⟨_, rfl, ?_⟩
       exact ⟨B_congr ⟨fun hx => ⟨hl, by omega, hpy, fun k k0 k1 => hcw k k0 (by omega), by rw [← b4]; omega⟩, fun h => by have h4 := h.2.2.pos; rw [← b4] at h4; omega⟩, hS.nl⟩

theorem eqlB (w : World) (a b : Bool) : (binOp .eql 4 (.bool a) (.bool b)).run Try.prog w = .ok (.bool (a == b)) w := by
  cases a <;> cases b <;> kernel_rfl
theorem ex_eqb {L : List (Nat × Value)} {w : World} {o : Oper} {x y : Operand} {T' : TypeId} {p q : Prop} (ho : o.op = .binOp .eql 4 x y T') (hx : evL L x = some (B p)) (hy : evL L y = some (B q)) : Runs Try.prog L w o (.value (B (p ↔ q))) w := fun ρ h => by
  by_cases hp : p <;> by_cases hq : q
  · rw [B_true hp] at hx; rw [B_true hq] at hy; rw [B_true (show p ↔ q from ⟨fun _ => hq, fun _ => hp⟩)]; simp [execOp, ho, h _ _ hx, h _ _ hy, eqlB]; rfl
  · rw [B_true hp] at hx; rw [B_false hq] at hy; rw [B_false (show ¬ (p ↔ q) from fun e => hq (e.1 hp))]; simp [execOp, ho, h _ _ hx, h _ _ hy, eqlB]; rfl
  · rw [B_false hp] at hx; rw [B_true hq] at hy; rw [B_false (show ¬ (p ↔ q) from fun e => hp (e.2 hq))]; simp [execOp, ho, h _ _ hx, h _ _ hy, eqlB]; rfl
  · rw [B_false hp] at hx; rw [B_false hq] at hy; rw [B_true (show p ↔ q from ⟨fun e => absurd e hp, fun e => absurd e hq⟩)]; simp [execOp, ho, h _ _ hx, h _ _ hy, eqlB]; rfl

set_option maxRecDepth 20000 in
theorem law_proof {vc vA vb : Value} {vq : Int → Value} {p : Lp} {vX vY : Value} {s : So} {vy : Value} {y : Int → Int} {my : Int} (w0 : World) (hL : LAt w0 vc vA vb vq p) (hX : Row w0 vX 1 s.n (ints s.X)) (hY : Row w0 vY 1 s.m (ints s.Y)) (hy : Row w0 vy 1 my (ints y)) :
    Calls Try.prog 9 [.agg #[vc, vA, vb], .agg #[vX, vY, .int .i64 s.val, .int .i64 s.den], vy].toArray w0 fun e w => ∃ v, e = .returned v ∧ v = .bool true ∧ Sat w0 w [] := by
  have hn := hL.c.slh.n0; have hn1 := hL.c.slh.n1; have hm := hL.A.row.slh.n0; have hm1 := hL.A.row.slh.n1; have hk := hL.b.slh.n0; have hk1 := hL.b.slh.n1
  refine zenG Try.func9 Try.ntmps9 fun w hS => ?_
  refine zsq <| zrg ?_
  refine zla (xbx (cs := [_, _, _]) hS) ?_; rintro _ w ⟨g1, rfl, hS⟩
  replace hS : Sat w0 w [.blk _ [_, _, _]] := hS
  refine zla (xbx (cs := [_, _, _, _]) hS) ?_; rintro _ w ⟨g2, rfl, hS⟩
  replace hS : Sat w0 w [.blk _ [_, _, _], .blk _ [_, _, _, _]] := hS
  refine zlv xas ?_
  refine zln <| ztn <| zsq <| zsq <| zrg ?_
  refine zlc (xc0 cl_12) (c_awake w) ?_; rintro _ w ⟨rfl, hS'⟩
  replace hS := hS.cmp hS'; clear hS'
  refine zlv xnt ?_
  refine zlv xmv ?_
  refine zlv (xls 0 st_25 hS) ?_
  refine zlc (xc0 cl_13) (c_few (p := p) w (hL.below hS.below)) ?_; rintro _ w ⟨rfl, hS'⟩
  replace hS := hS.cmp hS'; clear hS'
  refine zlv xnot ?_
  refine zlv xpf ?_
  refine zlv xmv ?_
  refine zlb 14 ?_ ?_ <;> intro hc
  ·
   iterate 4 refine zlo ?_
   refine zlv xpt ?_
   refine zlv xmv ?_
   iterate 4 refine zlo ?_
   refine zlv xpt ?_
   refine zlv xmv ?_
   iterate 3 refine zlo ?_
   refine zlv xpt ?_
   refine zln <| ztn <| zct <| zsq <| zrg ?_
   refine zlc (xc0 cl_12) (c_awake w) ?_; rintro _ w ⟨rfl, hS'⟩
   replace hS := hS.cmp hS'; clear hS'
   refine zlv xas ?_
   refine zln <| ztn <| zrt <| ztr <| zf1 ⟨_, rfl, ?_⟩
   exact ⟨rfl, hS.nl⟩
  ·
   refine zlv (xfb 0 fd_37_0) ?_
   refine zlv (xlb 1 pl_22 hS) ?_
   refine zlv (xln sl_22 hX.slh) ?_
   refine zlv xgtr ?_
   refine zlv xpf ?_
   refine zlv xmv ?_
   refine zlb 20 ?_ ?_ <;> intro hc
   ·
    iterate 4 refine zlo ?_
    refine zlv xpt ?_
    refine zlv xmv ?_
    iterate 3 refine zlo ?_
    refine zlv xpt ?_
    refine zln <| ztn <| zct <| zsq <| zrg ?_
    refine zlc (xc0 cl_12) (c_awake w) ?_; rintro _ w ⟨rfl, hS'⟩
    replace hS := hS.cmp hS'; clear hS'
    refine zlv xas ?_
    refine zln <| ztn <| zrt <| ztr <| zf1 ⟨_, rfl, ?_⟩
    exact ⟨rfl, hS.nl⟩
   ·
    refine zlv (xfb 1 fd_37_1) ?_
    refine zlv (xlb 1 pl_22 hS) ?_
    refine zlv (xln sl_22 hY.slh) ?_
    refine zlv xgtr ?_
    refine zlv xpf ?_
    refine zlv xmv ?_
    refine zlb 26 ?_ ?_ <;> intro hc
    ·
     iterate 3 refine zlo ?_
     refine zlv xpt ?_
     refine zln <| ztn <| zct <| zsq <| zrg ?_
     refine zlc (xc0 cl_12) (c_awake w) ?_; rintro _ w ⟨rfl, hS'⟩
     replace hS := hS.cmp hS'; clear hS'
     refine zlv xas ?_
     refine zln <| ztn <| zrt <| ztr <| zf1 ⟨_, rfl, ?_⟩
     exact ⟨rfl, hS.nl⟩
    ·
     refine zlv xmv ?_
     refine zlv (xln sl_22 hy.slh) ?_
     refine zlv xgtr ?_
     refine zlv xpf ?_
     refine zln <| ztn ?_
     refine zcif ?_ ?_ <;> intro hc
     ·
      refine zsq <| zrg ?_
      refine zlc (xc0 cl_12) (c_awake w) ?_; rintro _ w ⟨rfl, hS'⟩
      replace hS := hS.cmp hS'; clear hS'
      refine zlv xas ?_
      refine zln <| ztn <| zrt <| ztr <| zf1 ⟨_, rfl, ?_⟩
      exact ⟨rfl, hS.nl⟩
     ·
      refine zsk <| ztn <| zsq ?_
      refine zdst [0, 1] [0, 1] 1000 mx_ hS ?_; clear hS; intro w hS
      refine zdla 0 (fun w hS => (xls 0 st_25 hS)) ?_
      refine zdla 2 (fun w hS => (xls 1 st_37 hS)) ?_
      refine zdla 4 (fun w hS => (xls 0 st_25 hS)) ?_
      refine zdla 5 (fun w hS => (xls 1 st_37 hS)) ?_
      refine zdc 1 (xc0 cl_16) (c_own (p := p) w (hL.below hS.below)) ?_; rintro _ w ⟨rfl, hS'⟩
      replace hS := hS.cmp hS'; clear hS'
      refine ⟨⟨fun _ => hS, hS⟩, ?_⟩
      refine zdc 3 (xc0 cl_18) (c_check (p := p) (s := s) w (hL.below hS.below) (hX.below hS.below) (hY.below hS.below)) ?_; rintro _ w ⟨rfl, hS'⟩
      replace hS := hS.cmp hS'; clear hS'
      refine ⟨⟨fun _ => hS, hS⟩, ?_⟩
      refine zdc 6 (xc0 cl_17) (c_rcheck (p := p) (s := s) w (hL.below hS.below) (hX.below hS.below) (hY.below hS.below)) ?_; rintro _ w ⟨rfl, hS'⟩
      replace hS := hS.cmp hS'; clear hS'
      refine ⟨⟨fun _ => hS, hS⟩, ?_⟩
      refine zdvr 7 rfl rfl rfl rfl (by kernel_rfl) rfl (fun w => (ex_eqb rfl rfl rfl)) ?_
      refine zdv 8 (fun _ => xmv) ?_
      refine zdb 40 ?_ ?_ <;> intro hc
      ·
       refine zdla 9 (fun w hS => (xls 0 st_25 hS)) ?_
       refine zdv 11 (fun _ => xmv) ?_
       refine zdla 13 (fun w hS => (xls 0 st_25 hS)) ?_
       refine zdv 14 (fun _ => xmv) ?_
       refine zdc 10 (xc0 cl_16) (c_own (p := p) w (hL.below hS.below)) ?_; rintro _ w ⟨rfl, hS'⟩
       replace hS := hS.cmp hS'; clear hS'
       refine ⟨⟨fun _ => hS, hS⟩, ?_⟩
       refine zdc 12 (xc0 cl_30) (c_proves (p := p) (y := y) (my := my) w (hL.below hS.below) (hy.below hS.below)) ?_; rintro _ w ⟨rfl, hS'⟩
       replace hS := hS.cmp hS'; clear hS'
       refine ⟨⟨fun _ => hS, hS⟩, ?_⟩
       refine zdc 15 (xc0 cl_31) (c_rproves (p := p) (y := y) (my := my) w (hL.below hS.below) (hy.below hS.below)) ?_; rintro _ w ⟨rfl, hS'⟩
       replace hS := hS.cmp hS'; clear hS'
       refine ⟨⟨fun _ => hS, hS⟩, ?_⟩
       refine zdvr 16 rfl rfl rfl rfl (by kernel_rfl) rfl (fun w => (ex_eqb rfl rfl rfl)) ?_
       refine zdv 17 (fun _ => xpt) ?_
       refine zdv 18 (fun _ => xas) ?_
       refine zdd <| ztn <| zrt <| zf1 ⟨_, rfl, ?_⟩
       exact ⟨(true_B Iff.rfl).symm, hS.nl⟩
      ·
       refine zdof 9 ?_
       refine zdof 11 ?_
       refine zdof 13 ?_
       refine zdof 14 ?_
       refine zdof 10 ?_
       refine zdof 12 ?_
       refine zdof 15 ?_
       refine zdof 16 ?_
       refine zdv 17 (fun _ => xpf) ?_
       refine zdv 18 (fun _ => xas) ?_
       refine zdd <| ztn <| zrt <| zf1 ⟨_, rfl, ?_⟩
       exact absurd Iff.rfl ‹_›

end Go.Proofs.Ytakgjpmhbfieeaa
