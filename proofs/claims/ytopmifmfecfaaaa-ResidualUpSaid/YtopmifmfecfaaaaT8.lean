/- The walks of Grow, Concat, of plans. -/
import Derived.Test.YtopmifmfecfaaaaGv
import Derived.Test.YtopmifmfecfaaaaR6
import Derived.Test.YtopmifmfecfaaaaGz
import Derived.Test.YtopmifmfecfaaaaFf
import Derived.Test.YtopmifmfecfaaaaHb
import Derived.Test.YtopmifmfecfaaaaGk
import Derived.Test.YtopmifmfecfaaaaHu
namespace Go.Proofs.Ytopmifmfecfaaaa
open Go Go.RowKit Go.Proofs.Gw
set_option linter.unusedVariables false

theorem cl_104 : calledT Try.prog 104 = true := by kernel_rfl
theorem cl_105 : calledT Try.prog 105 = true := by kernel_rfl
theorem cl_106 : calledT Try.prog 106 = true := by kernel_rfl
theorem cl_107 : calledT Try.prog 107 = true := by kernel_rfl
theorem cl_118 : calledT Try.prog 118 = true := by kernel_rfl
theorem cl_49 : calledT Try.prog 49 = true := by kernel_rfl
theorem cl_82 : calledT Try.prog 82 = true := by kernel_rfl
theorem cl_83 : calledT Try.prog 83 = true := by kernel_rfl
theorem cl_84 : calledT Try.prog 84 = true := by kernel_rfl
theorem cl_85 : calledT Try.prog 85 = true := by kernel_rfl
theorem cl_86 : calledT Try.prog 86 = true := by kernel_rfl
theorem el_43 : elemT Try.prog 43 = some (.slice none 0 0, 1, 24) := by kernel_rfl
theorem pl_43 : plainT Try.prog 43 = true := by kernel_rfl
theorem pl_75 : plainT Try.prog 75 = true := by kernel_rfl
theorem sl_129 : sliceT Try.prog 129 = some (43, 1) := by kernel_rfl
set_option maxRecDepth 20000 in
theorem c_badu {vL vD : Value} {p : Prob} {gp : Nat} {vB : Value} {m b : Int} {g : Int → Int} (w0 : World) (hG : (Ent.blk gp [vL, vD, .int .i64 p.stock, .int .i64 p.kerf]).holds w0) (h : PAt w0 vL vD p) (hB : Row w0 vB 1 m (ints g)) :
    Calls Try.prog 104 [.agg #[vB, .int .i64 b], .pointer (some ⟨gp, 0, none⟩)].toArray w0 fun e w => ∃ v, e = .returned v ∧ v = B (¬ (1 ≤ b ∧ b ≤ 1000 ∧ FitsP p m g)) ∧ Sat w0 w [] := by
  refine zenG Try.func104 Try.ntmps104 fun w hS => ?_
  refine zsr ?_
  refine zla (xbx (cs := [_, _]) hS) ?_; rintro _ w ⟨g1, rfl, hS⟩
  replace hS := hS.n1
  refine zlv xas ?_
  refine zlz ?_
  refine zlv (xfb 1 fd_50_1) ?_
  refine zlv (xlb 0 pl_3 hS) ?_
  refine zs2 ?_
  refine zlb 7 ?_ ?_ <;> intro hc
  ·
   iterate 3 refine zlo ?_
   refine zs2 ?_
   iterate 5 refine zlo ?_
   refine zs2 ?_
   refine zlt <| zrt <| zf1 ⟨_, rfl, ?_⟩
   exact ⟨true_B (by rintro ⟨h1, h2, h3⟩; first | omega | exact absurd h3 ‹_›), hS.nl⟩
  refine zlv (xfb 1 fd_50_1) ?_
  refine zlv (xlb 0 pl_3 hS) ?_
  refine zs3 ?_
  refine zlb 12 ?_ ?_ <;> intro hc
  ·
   iterate 5 refine zlo ?_
   refine zs2 ?_
   refine zlt <| zrt <| zf1 ⟨_, rfl, ?_⟩
   exact ⟨true_B (by rintro ⟨h1, h2, h3⟩; first | omega | exact absurd h3 ‹_›), hS.nl⟩
  refine zlv (xlfs st_39 hG hS) ?_
  refine zlv (xfb 0 fd_50_0) ?_
  refine zlv (xlb 0 pl_22 hS) ?_
  refine zlc (xc0 cl_70) (c_pfits (p := p) w (h.below hS.below) (hB.below hS.below)) ?_; rintro _ w ⟨rfl, hS'⟩
  replace hS := hS.cmp hS'; clear hS'
  refine zs3 ?_
  refine zlt <| zrt <| zf1 ⟨_, rfl, ?_⟩
  exact ⟨B_congr ⟨fun h1 hh => h1 hh.2.2, fun h1 hh => h1 ⟨by omega, by omega, hh⟩⟩, hS.nl⟩

set_option maxRecDepth 20000 in
theorem c_ixbad {vV : Value} {u : Int} {pv : Int → Value} {ln : Int → Int} {pt : Int → Int → Int} {cnt : Int → Int} {vL vD : Value} {p : Prob} {gp : Nat} (w0 : World) (hV : VAt w0 vV u pv ln pt cnt) (hG : (Ent.blk gp [vL, vD, .int .i64 p.stock, .int .i64 p.kerf]).holds w0) (h : PAt w0 vL vD p) :
    Calls Try.prog 96 [vV, .func (.func 104) #[] #[.pointer (some ⟨gp, 0, none⟩)]].toArray w0 fun e w => ∃ v, e = .returned v ∧ ∃ r : Int, v = .int .i64 r ∧ ((r = -1 ∧ ∀ k, 0 ≤ k → k < u → ¬ (¬ (1 ≤ (cnt k) ∧ (cnt k) ≤ 1000 ∧ FitsP p (ln k) (pt k)))) ∨ (0 ≤ r ∧ r < u ∧ (¬ (1 ≤ (cnt r) ∧ (cnt r) ≤ 1000 ∧ FitsP p (ln r) (pt r))) ∧ ∀ k, 0 ≤ k → k < r → ¬ (¬ (1 ≤ (cnt k) ∧ (cnt k) ≤ 1000 ∧ FitsP p (ln k) (pt k))))) ∧ Sat w0 w [] := by
  have hn := hV.row.slh.n0; have hn1 := hV.row.slh.n1
  refine zenG Try.func96 Try.ntmps96 fun w hS => ?_
  refine zsr ?_
  refine zlv xas ?_
  refine zlt <| zsq <| zsr ?_
  refine zlv xmv ?_
  refine zlv (xln sl_43 hV.row.slh) ?_
  refine zlv xmv ?_
  refine zlt <| zbk <| zlp (fun mm M w => ∃ (i : Int), mm = ((u - i).toNat) ∧ (0 ≤ i) ∧ (i ≤ u) ∧ (∀ k, 0 ≤ k → k < i → ¬ (¬ (1 ≤ (cnt k) ∧ (cnt k) ≤ 1000 ∧ FitsP p (ln k) (pt k)))) ∧ M = [(0, vV), (1, .func (.func 104) #[] #[.pointer (some ⟨gp, 0, none⟩)]), (7, .int .i64 u), (8, .int .i64 i)] ∧ Sat w0 w []) ⟨0, rfl, (by omega), (by omega), ?_, rfl, hS⟩ ?_
  ·
   intro k h0 h1; omega
  clear hS w
  rintro mm M w ⟨i, rfl, h0, h1, hall, rfl, hS⟩
  refine zsr ?_
  refine zlv xlss ?_
  refine zlt <| zsq ?_
  refine zcif ?_ ?_ <;> intro hc
  ·
   refine zsk <| ztn <| zsq <| zbk <| zsr ?_
   refine zs2 ?_
   refine zlz ?_
   refine zs3 ?_
   refine zlv (xix (kk := 2 * i) sl_43 hV.row.slh) ?_
   refine zlv (xlw (cs := [(pv i), .int .i64 (cnt i)]) st_50 (hV.row.below hS.below) (ucells_at (k := 2 * i) (i := i) pv cnt (by omega))) ?_
   refine zlc (xcc (vs := [_]) cl_104) (c_badu (p := p) (m := (ln i)) (g := (pt i)) w (Sat.oldblk hS hG) (h.below hS.below) ((hV.p i (by omega) (by omega)).below hS.below)) ?_; rintro _ w ⟨rfl, hS'⟩
   replace hS := hS.cmp hS'; clear hS'
   refine zlt ?_
   refine zcif ?_ ?_ <;> intro hc
   ·
    refine zsr ?_
    refine zs2 ?_
    refine zlt <| zrt <| zbr <| ztr <| ztr <| zbr <| ztr <| zf1 ⟨_, rfl, ?_⟩
    exact ⟨i, rfl, .inr ⟨by omega, by omega, ‹¬ (1 ≤ (cnt i) ∧ (cnt i) ≤ 1000 ∧ FitsP p (ln i) (pt i))›, hall⟩, hS⟩
   refine zsk <| zbn <| ztn <| zrg ?_
   refine zlv (xadd (r := i + 1)) ?_
   refine zlv xmv ?_
   refine zln <| zlq ⟨i + 1, rfl, (by omega), (by omega), ?_, rfl, hS⟩
   ·
    intro k h0' h1'; rcases Int.lt_or_eq_of_le (show k ≤ i by omega) with hk | hk; exact hall k h0' hk; rw [hk]; assumption
  refine zxt <| ztx <| ztx <| zbh <| ztn <| zsr ?_
  refine zlv xas ?_
  refine zlt <| zrt <| zf1 ⟨_, rfl, ?_⟩
  exact ⟨-1, rfl, .inl ⟨rfl, fun k h0 h1 => hall k h0 (by omega)⟩, hS⟩

set_option maxRecDepth 20000 in
theorem c_cobad {vV : Value} {u : Int} {pv : Int → Value} {ln : Int → Int} {pt : Int → Int → Int} {cnt : Int → Int} {vL vD : Value} {p : Prob} {gp : Nat} (w0 : World) (hV : VAt w0 vV u pv ln pt cnt) (hG : (Ent.blk gp [vL, vD, .int .i64 p.stock, .int .i64 p.kerf]).holds w0) (h : PAt w0 vL vD p) :
    Calls Try.prog 105 [vV, .func (.func 104) #[] #[.pointer (some ⟨gp, 0, none⟩)]].toArray w0 fun e w => ∃ v, e = .returned v ∧ v = B (∃ k, 0 ≤ k ∧ k < u ∧ ¬ (1 ≤ (cnt k) ∧ (cnt k) ≤ 1000 ∧ FitsP p (ln k) (pt k))) ∧ Sat w0 w [] := by
  refine zenG Try.func105 Try.ntmps105 fun w hS => ?_
  refine zsr ?_
  refine zlv xas ?_
  refine zlz ?_
  refine zs2 ?_
  refine zlc (xc0 cl_96) (c_ixbad (u := u) (pv := pv) (ln := ln) (pt := pt) (cnt := cnt) (p := p) w (hV.below hS.below) (Sat.oldblk hS hG) (h.below hS.below)) ?_; rintro _ w ⟨r1, rfl, hr1, hS'⟩
  replace hS := hS.cmp hS'; clear hS'
  refine zs2 ?_
  refine zlt <| zrt <| zf1 ⟨_, rfl, ?_⟩
  exact ⟨B_congr (by
   rcases hr1 with ⟨h1, h2⟩ | ⟨h1, h2, h3, _⟩
   · exact ⟨fun h => by omega, fun ⟨k, h4, h5, h6⟩ => absurd h6 (h2 k h4 h5)⟩
   · exact ⟨fun _ => ⟨_, h1, h2, h3⟩, fun _ => h1⟩), hS⟩

/-- A plan that is valid for a problem. -/
def PlanOk (p : Prob) (u : Int) (ln : Int → Int) (pt : Int → Int → Int) (cnt : Int → Int) : Prop := p.Ok ∧ u ≤ 1000 ∧ ∀ k, 0 ≤ k → k < u → 1 ≤ cnt k ∧ cnt k ≤ 1000 ∧ FitsP p (ln k) (pt k)
/-- What a plan makes. -/
def madeF (u : Int) (pt : Int → Int → Int) (cnt : Int → Int) : Int → Int := fun j => psum (fun k => pt k j) cnt u.toNat
theorem no_bad {p : Prob} {u : Int} {ln cnt : Int → Int} {pt : Int → Int → Int} : ¬ (∃ k, 0 ≤ k ∧ k < u ∧ ¬ (1 ≤ cnt k ∧ cnt k ≤ 1000 ∧ FitsP p (ln k) (pt k))) ↔ ∀ k, 0 ≤ k → k < u → 1 ≤ cnt k ∧ cnt k ≤ 1000 ∧ FitsP p (ln k) (pt k) :=
  ⟨fun h k k0 k1 => Classical.not_not.1 fun hn => h ⟨k, k0, k1, hn⟩, fun h ⟨k, k0, k1, hn⟩ => hn (h k k0 k1)⟩
theorem madeF_next {pt : Int → Int → Int} {cnt : Int → Int} {i j : Int} (i0 : 0 ≤ i) : madeF (i + 1) pt cnt j = madeF i pt cnt j + pt i j * cnt i := psum_next _ _ i0
theorem mul_rng3 {a b A B : Int} (a0 : 0 ≤ a) (a1 : a ≤ A) (b0 : 0 ≤ b) (b1 : b ≤ B) : 0 ≤ a * b ∧ a * b ≤ A * B :=
  ⟨Int.mul_nonneg a0 b0, Int.mul_le_mul a1 b1 b0 (by omega)⟩
theorem madeF_rng {p : Prob} {u : Int} {ln cnt : Int → Int} {pt : Int → Int → Int} (h : ∀ k, 0 ≤ k → k < u → 1 ≤ cnt k ∧ cnt k ≤ 1000 ∧ FitsP p (ln k) (pt k)) : ∀ {i : Int}, 0 ≤ i → i ≤ u → ∀ {j : Int}, 0 ≤ j → j < p.m → 0 ≤ madeF i pt cnt j ∧ madeF i pt cnt j ≤ 2000000 * i := by
  intro i i0
  obtain ⟨n, rfl⟩ := Int.eq_ofNat_of_zero_le i0
  induction n with
  | zero => intro _ j _ _; exact ⟨Int.le_refl _, by show (0 : Int) ≤ _; omega⟩
  | succ n ih =>
    intro hi j j0 j1
    have h1 := ih (by omega) (by omega) j0 j1
    obtain ⟨h2, h3, h4⟩ := h n (by omega) (by omega)
    have h5 := h4.all j j0 (by have := h4.eq; omega)
    have h6 := mul_rng3 h5.1 h5.2 (show 0 ≤ cnt n by omega) h3
    have h7 := madeF_next (pt := pt) (cnt := cnt) (i := (n : Int)) (j := j) (by omega)
    rw [show ((n + 1 : Nat) : Int) = (n : Int) + 1 by omega, h7]; omega

set_option maxRecDepth 20000 in
theorem c_planok {vV : Value} {u : Int} {pv : Int → Value} {ln : Int → Int} {pt : Int → Int → Int} {cnt : Int → Int} {vL vD : Value} {p : Prob} (w0 : World) (hV : VAt w0 vV u pv ln pt cnt) (h : PAt w0 vL vD p) :
    Calls Try.prog 82 [.agg #[vL, vD, .int .i64 p.stock, .int .i64 p.kerf], vV].toArray w0 fun e w => ∃ v, e = .returned v ∧ v = B (PlanOk p u ln pt cnt) ∧ Sat w0 w [] := by
  have hm := h.L.slh.n0; have hm1 := h.L.slh.n1; have hd := h.D.slh.n0; have hd1 := h.D.slh.n1; have hs := h.is; have hk := h.ik
  have hu := hV.row.slh.n0; have hu1 := hV.row.slh.n1
  refine zenG Try.func82 Try.ntmps82 fun w hS => ?_
  refine zsr ?_
  refine zla (xbx (cs := [_, _, _, _]) hS) ?_; rintro _ w ⟨g1, rfl, hS⟩
  replace hS := hS.n1
  refine zlv xas ?_
  refine zlz ?_
  refine zlv xmf ?_
  refine zlv xas ?_
  refine zlz ?_
  refine zlv (xls 0 st_39 hS) ?_
  refine zlc (xc0 cl_34) (c_pvalid (p := p) w (h.below hS.below)) ?_; rintro _ w ⟨rfl, hS'⟩
  replace hS := hS.cmp hS'; clear hS'
  refine zlv xmv ?_
  refine zlb 9 ?_ ?_ <;> intro hc
  ·
   refine zlv xmv ?_
   refine zlv (xln sl_43 hV.row.slh) ?_
   refine zs3 ?_
   refine zlb 14 ?_ ?_ <;> intro hc
   ·
    refine zs2 ?_
    refine zlc (xc0 cl_105) (c_cobad (u := u) (pv := pv) (ln := ln) (pt := pt) (cnt := cnt) (p := p) w (hV.below hS.below) (hS.holds _ (List.mem_of_getElem? (i := 0) rfl)) (h.below hS.below)) ?_; rintro _ w ⟨rfl, hS'⟩
    replace hS := hS.cmp hS'; clear hS'
    refine zs3 ?_
    refine zlt <| zrt <| zf1 ⟨_, rfl, ?_⟩
    exact ⟨B_congr ⟨fun hh => ⟨by first | assumption | exact Classical.not_not.1 ‹_›, by omega, no_bad.1 hh⟩, fun hh => no_bad.2 hh.2.2⟩, hS.nl⟩
   iterate 4 refine zlo ?_
   refine zs2 ?_
   refine zlt <| zrt <| zf1 ⟨_, rfl, ?_⟩
   exact ⟨false_B (by rintro ⟨h1, h2, h3⟩; first | exact absurd h1 ‹_› | omega | exact absurd (no_bad.2 h3) ‹_›), hS.nl⟩
  iterate 3 refine zlo ?_
  refine zs2 ?_
  iterate 4 refine zlo ?_
  refine zs2 ?_
  refine zlt <| zrt <| zf1 ⟨_, rfl, ?_⟩
  exact ⟨false_B (by rintro ⟨h1, h2, h3⟩; first | exact absurd h1 ‹_› | omega | exact absurd (no_bad.2 h3) ‹_›), hS.nl⟩

set_option maxHeartbeats 4000000 in
set_option maxRecDepth 20000 in
theorem c_pmade {vV : Value} {u : Int} {pv : Int → Value} {ln : Int → Int} {pt : Int → Int → Int} {cnt : Int → Int} {vL vD : Value} {p : Prob} (w0 : World) (hV : VAt w0 vV u pv ln pt cnt) (h : PAt w0 vL vD p) :
    Calls Try.prog 49 [.agg #[vL, vD, .int .i64 p.stock, .int .i64 p.kerf], vV].toArray w0 fun e w => ∃ v, e = .returned v ∧ ∃ r n f e, v = .tuple #[r, .int .i64 e] ∧ ((¬ PlanOk p u ln pt cnt ∧ n = 0 ∧ e = 1) ∨ (PlanOk p u ln pt cnt ∧ n = p.m ∧ f = madeF u pt cnt ∧ e = 0)) ∧ Slh r n ∧ Sat w0 w [.own r 1 3 n (ints f)] := by
  have hm := h.L.slh.n0; have hm1 := h.L.slh.n1; have hd := h.D.slh.n0; have hd1 := h.D.slh.n1; have hs := h.is; have hk := h.ik
  have hu := hV.row.slh.n0; have hu1 := hV.row.slh.n1
  refine zenG Try.func49 Try.ntmps49 fun w hS => ?_
  refine zsr ?_
  refine zla (xbx (cs := [_, _, _, _]) hS) ?_; rintro _ w ⟨g1, rfl, hS⟩
  replace hS := hS.n1
  refine zs2 ?_
  refine zlt <| zsq <| zsr ?_
  refine zlv (xls 0 st_39 hS) ?_
  refine zlv xmv ?_
  refine zlc (xc0 cl_82) (c_planok (u := u) (pv := pv) (ln := ln) (pt := pt) (cnt := cnt) (p := p) w (hV.below hS.below) (h.below hS.below)) ?_; rintro _ w ⟨rfl, hS'⟩
  replace hS := hS.cmp hS'; clear hS'
  refine zlv xnot ?_
  refine zlt ?_
  refine zcif ?_ ?_ <;> intro hc
  ·
   refine zsr ?_
   refine zs2 ?_
   refine zlt <| zrt <| ztr <| zf2 ⟨_, rfl, ?_⟩
   exact ⟨_, 0, fun _ => 0, 1, rfl, .inl ⟨‹¬ PlanOk p u ln pt cnt›, rfl, rfl⟩, slh_nil, (hS.sub (.cons _ .slnil)).addnil 1 3 (ints fun _ => 0)⟩
  refine zsk <| ztn <| zsr ?_
  refine zlv (xfb 0 fd_39_0) ?_
  have hplo : PlanOk p u ln pt cnt := by first | assumption | exact Classical.not_not.1 ‹_›
  have hpm1 := hplo.1.m1; have hpm2 := hplo.1.m2; have hu3 := hplo.2.1
  refine zlv (xlb 0 pl_22 hS) ?_
  refine zlv (xln sl_22 h.L.slh) ?_
  refine zla (xmk sl_22 el_3 hS) ?_; rintro v1 w ⟨hS, hv1⟩
  replace hS := hS.n2
  refine zlv xas ?_
  refine zlt <| zsq <| zsr ?_
  refine zlv xmv ?_
  refine zlv (xln sl_43 hV.row.slh) ?_
  refine zlv xmv ?_
  refine zlt <| zbk <| zlp (fun mm M w => ∃ (f : Int → Int) (i : Int), mm = ((u - i).toNat) ∧ (0 ≤ i) ∧ (i ≤ u) ∧ (∀ k, 0 ≤ k → k < p.m → f k = madeF i pt cnt k) ∧ M = [(4, .slice none 0 0), (5, .int .i64 0), (6, v1), (19, vV), (20, .int .i64 u), (21, .int .i64 i)] ∧ Sat w0 w [.blk g1 [vL, vD, .int .i64 p.stock, .int .i64 p.kerf], .own v1 1 3 p.m (ints f)]) ⟨(fun _ => 0), 0, rfl, (by omega), (by omega), ?_, rfl, hS⟩ ?_
  ·
   intro k _ _; rfl
  clear hS w
  rintro mm M w ⟨f, i, rfl, h0, h1, hf, rfl, hS⟩
  refine zsr ?_
  refine zlv xlss ?_
  refine zlt <| zsq ?_
  refine zcif ?_ ?_ <;> intro hc
  ·
   refine zsk <| ztn <| zsq <| zbk <| zsr ?_
   refine zlv (xix (kk := 2 * i) sl_43 hV.row.slh) ?_
   refine zlv (xlw (cs := [(pv i), .int .i64 (cnt i)]) st_50 (hV.row.below hS.below) (ucells_at (k := 2 * i) (i := i) pv cnt (by omega))) ?_
   obtain ⟨hq1, hq2, hq3⟩ := hplo.2.2 i h0 (by omega)
   have hq4 := hq3.eq
   refine zla (xal (cs := [_, _]) el_50 hS) ?_; rintro _ w ⟨g2, rfl, hS⟩
   replace hS := hS.n3
   refine zle (xsw 2 st_50 hS (hd := (ones_cons (hV.p i (by omega) (by omega)).slh.one (ones_cons rfl ones_nil)))) ?_; clear hS; rintro w hS
   replace hS := hS.n3
   refine zlz ?_
   refine zlv (xfb 0 fd_50_0) ?_
   refine zlv (xlb 2 pl_22 hS) ?_
   refine zlv (xln sl_22 (hV.p i (by omega) (by omega)).slh) ?_
   refine zlv xmv ?_
   refine zlt <| zbk <| zlp (fun mm M w => ∃ (f2 : Int → Int) (j : Int), mm = ((ln i - j).toNat) ∧ (0 ≤ j) ∧ (j ≤ ln i) ∧ (∀ k, 0 ≤ k → k < p.m → f2 k = (if k < j then madeF (i + 1) pt cnt k else madeF i pt cnt k)) ∧ M = [(4, .slice none 0 0), (5, .int .i64 0), (6, v1), (8, .pointer (some ⟨g2, 0, none⟩)), (19, vV), (20, .int .i64 u), (21, .int .i64 i), (26, (pv i)), (27, .int .i64 (ln i)), (28, .int .i64 j)] ∧ Sat w0 w [.blk g1 [vL, vD, .int .i64 p.stock, .int .i64 p.kerf], .own v1 1 3 p.m (ints f2), .blk g2 [(pv i), .int .i64 (cnt i)]]) ⟨f, 0, rfl, (by omega), (by omega), ?_, rfl, hS⟩ ?_
   ·
    intro k k0 k1; rw [if_neg (by omega)]; exact hf k k0 k1
   clear hS w
   rintro mm M w ⟨f2, j, rfl, j0, j1, hf2, rfl, hS⟩
   refine zsr ?_
   refine zlv xlss ?_
   refine zlt <| zsq ?_
   refine zcif ?_ ?_ <;> intro hc
   ·
    refine zsk <| ztn <| zsq <| zbk <| zsr ?_
    refine zlv xmv ?_
    refine zlv (xix (kk := j) sl_22 (hV.p i (by omega) (by omega)).slh) ?_
    refine zlv (xlr (u := .int .i64 ((pt i) j)) pl_3 ((hV.p i (by omega) (by omega)).below hS.below)) ?_
    have hpj := hq3.all j j0 (by omega)
    have hmr := madeF_rng hplo.2.2 h0 (by omega) (j := j) j0 (by omega)
    have hfj := hf2 j j0 (by omega)
    rw [if_neg (by omega)] at hfj
    have hmj := mul_rng3 hpj.1 hpj.2 (show 0 ≤ cnt i by omega) hq2
    refine zs2 ?_
    refine zlt ?_
    refine zdst [0, 1, 2] [0, 2] 10 mx_ hS ?_; clear hS; intro w hS
    refine zdv 0 (fun _ => xmv) ?_
    refine zdv 1 (fun _ => xmv) ?_
    refine zdv 2 (fun _ => (xix (kk := j) sl_22 hv1)) ?_
    refine zdl 3 (fun w hS => (xlr (u := .int .i64 (f2 j)) pl_3 (hS.rowN 1 rfl))) ?_
    refine zdv 4 (fun _ => xmv) ?_
    refine zdv 5 (fun _ => (xfb 1 fd_50_1)) ?_
    refine zdla 6 (fun w hS => (xlb 1 pl_3 hS)) ?_
    refine zdv 7 (fun _ => (xmul (r := (((pt i) j) * (cnt i))) (e := rfl))) ?_
    refine zdv 8 (fun _ => (xadd (r := f2 j + (((pt i) j) * (cnt i))))) ?_
    refine zdv 9 (fun _ => (xix (kk := j) sl_22 hv1)) ?_
    refine zde 10 (xso 1 pl_3 hS (upd_ints _ _ _)) ?_; clear hS; rintro w hS
    replace hS := hS.n3
    refine ⟨⟨fun h => absurd h (by decide), hS.pk [0, 2]⟩, ?_⟩
    refine zdd <| zbn <| ztn <| zrg ?_
    refine zlv (xadd (r := j + 1)) ?_
    refine zlv xmv ?_
    refine zln <| zlq ⟨(upd f2 j (f2 j + (((pt i) j) * (cnt i)))), j + 1, rfl, (by omega), (by omega), ?_, rfl, hS⟩
    ·
     intro k k0 k1; unfold upd; by_cases e : k = j
     · rw [if_pos e, if_pos (by omega), e, madeF_next h0]; omega
     · rw [if_neg e, hf2 k k0 k1]; by_cases e2 : k < j
       · rw [if_pos e2, if_pos (by omega)]
       · rw [if_neg e2, if_neg (by omega)]
   refine zxt <| ztx <| ztx <| zbh <| zbn <| ztn <| zrg ?_
   refine zlv (xadd (r := i + 1)) ?_
   refine zlv xmv ?_
   refine zln <| zlq ⟨f2, i + 1, rfl, (by omega), (by omega), ?_, rfl, hS.pk [0, 1]⟩
   ·
    intro k k0 k1; rw [hf2 k k0 k1, if_pos (by omega)]
  refine zxt <| ztx <| ztx <| zbh <| ztn <| zsr ?_
  refine zs3 ?_
  refine zlt <| zrt <| zf2 ⟨_, rfl, ?_⟩
  have hiu : i = u := by omega
  rw [hiu] at hf
  replace hS := hS.recont 1 rfl (d := ints (madeF u pt cnt)) (fun k k0 k1 => congrArg (Value.int .i64) (hf k k0 (by omega)))
  exact ⟨_, _, _, 0, rfl, .inr ⟨hplo, rfl, rfl, rfl⟩, hv1, hS.pk [1]⟩

set_option maxHeartbeats 4000000 in
set_option maxRecDepth 20000 in
theorem c_pmeets {vV : Value} {u : Int} {pv : Int → Value} {ln : Int → Int} {pt : Int → Int → Int} {cnt : Int → Int} {vL vD : Value} {p : Prob} (w0 : World) (hV : VAt w0 vV u pv ln pt cnt) (h : PAt w0 vL vD p) :
    Calls Try.prog 83 [.agg #[vL, vD, .int .i64 p.stock, .int .i64 p.kerf], vV].toArray w0 fun e w => ∃ v, e = .returned v ∧ v = B (PlanOk p u ln pt cnt ∧ ∀ j, 0 ≤ j → j < p.m → p.D j ≤ madeF u pt cnt j) ∧ Sat w0 w [] := by
  have hm := h.L.slh.n0; have hm1 := h.L.slh.n1; have hd := h.D.slh.n0; have hd1 := h.D.slh.n1; have hs := h.is; have hk := h.ik
  refine zenG Try.func83 Try.ntmps83 fun w hS => ?_
  refine zsr ?_
  refine zla (xbx (cs := [_, _, _, _]) hS) ?_; rintro _ w ⟨g1, rfl, hS⟩
  replace hS := hS.n1
  refine zlv xas ?_
  refine zlz ?_
  refine zlv (xls 0 st_39 hS) ?_
  refine zlv xmv ?_
  refine zlc (xc0 cl_49) (c_pmade (u := u) (pv := pv) (ln := ln) (pt := pt) (cnt := cnt) (p := p) w (hV.below hS.below) (h.below hS.below)) ?_; rintro _ w ⟨vdmd1, ndmd1, fdmd1, edmd1, rfl, hmdmd1, hvdmd1, hS'⟩
  replace hS : Sat w0 w [.blk g1 [vL, vD, .int .i64 p.stock, .int .i64 p.kerf], .own vdmd1 1 3 ndmd1 (ints fdmd1)] := hS.comp hS'; clear hS'
  refine zs3 ?_
  have hnd := hvdmd1.n0; have hnd1 := hvdmd1.n1
  have hndd : ndmd1 ≤ p.d := by
    rcases hmdmd1 with ⟨_, g2, _⟩ | ⟨g1, g2, _, _⟩
    · omega
    · have := g1.1.d; omega
  refine zs2 ?_
  refine zlt <| zsq <| zsr ?_
  refine zlv xmv ?_
  refine zlv (xln sl_22 hvdmd1) ?_
  refine zlv xmv ?_
  refine zlt <| zbk <| zlp (fun mm M w => ∃ (i : Int), mm = ((ndmd1 - i).toNat) ∧ (0 ≤ i) ∧ (i ≤ ndmd1) ∧ (∀ k, 0 ≤ k → k < i → p.D k ≤ fdmd1 k) ∧ M = [(2, .pointer (some ⟨g1, 0, none⟩)), (6, .int .i64 edmd1), (15, vdmd1), (16, .int .i64 ndmd1), (17, .int .i64 i)] ∧ Sat w0 w [.blk g1 [vL, vD, .int .i64 p.stock, .int .i64 p.kerf], .own vdmd1 1 3 ndmd1 (ints fdmd1)]) ⟨0, rfl, (by omega), (by omega), ?_, rfl, hS⟩ ?_
  ·
   intro k h0 h1; omega
  clear hS w
  rintro mm M w ⟨i, rfl, h0, h1, hall, rfl, hS⟩
  refine zsr ?_
  refine zlv xlss ?_
  refine zlt <| zsq ?_
  refine zcif ?_ ?_ <;> intro hc
  ·
   refine zsk <| ztn <| zsq <| zbk <| zsr ?_
   refine zlv xmv ?_
   refine zlv (xix (kk := i) sl_22 hvdmd1) ?_
   refine zlv (xlr (u := .int .i64 (fdmd1 i)) pl_3 (hS.rowN 1 rfl)) ?_
   refine zs2 ?_
   refine zlz ?_
   refine zlv xmv ?_
   refine zlv (xfb 1 fd_39_1) ?_
   refine zlv (xlb 0 pl_22 hS) ?_
   refine zlv xmv ?_
   refine zlv (xix (kk := i) sl_22 h.D.slh) ?_
   refine zlv (xlr (u := .int .i64 (p.D i)) pl_3 (h.D.below hS.below)) ?_
   have hbv := h.iD i
   refine zlv xlss ?_
   refine zlt ?_
   refine zcif ?_ ?_ <;> intro hc
   ·
    refine zsr ?_
    refine zlv xas ?_
    refine zlt <| zrt <| zbr <| ztr <| ztr <| zbr <| ztr <| zf1 ⟨_, rfl, ?_⟩
    refine ⟨false_B ?_, hS.nl⟩
    rcases hmdmd1 with ⟨g1, g2, g3⟩ | ⟨g1, g2, g3, g4⟩
    · exact fun hh => g1 hh.1
    · intro hh; subst g3; have h9 := hh.2 i h0 (by omega); omega
   refine zsk <| zbn <| ztn <| zrg ?_
   refine zlv (xadd (r := i + 1)) ?_
   refine zlv xmv ?_
   refine zln <| zlq ⟨i + 1, rfl, (by omega), (by omega), ?_, rfl, hS⟩
   ·
    intro k h0' h1'; rcases Int.lt_or_eq_of_le (show k ≤ i by omega) with hk | hk; exact hall k h0' hk; rw [hk]; omega
  refine zxt <| ztx <| ztx <| zbh <| ztn <| zsr ?_
  refine zs3 ?_
  refine zlt <| zrt <| zf1 ⟨_, rfl, ?_⟩
  refine ⟨B_congr ?_, hS.nl⟩
  rcases hmdmd1 with ⟨g1, g2, g3⟩ | ⟨g1, g2, g3, g4⟩
  · exact ⟨fun hh => by omega, fun hh => absurd hh.1 g1⟩
  · exact ⟨fun _ => ⟨g1, fun j j0 j1 => by have := hall j j0 (by omega); rw [g3] at this; exact this⟩, fun _ => by omega⟩

/-- The numbers below u, down to above x. -/
def dwnN (u : Int) : Nat → List Int
  | 0 => []
  | t + 1 => dwnN u t ++ [u - 1 - t]
def dwn (u x : Int) : List Int := dwnN u (u - 1 - x).toNat
theorem dwn_next {u x : Int} (h : x < u) : dwn u (x - 1) = dwn u x ++ [x] := by
  unfold dwn
  rw [show (u - 1 - (x - 1)).toNat = (u - 1 - x).toNat + 1 by omega, dwnN, show u - 1 - ((u - 1 - x).toNat : Int) = x by omega]
theorem dwn_start (u : Int) : dwn u (u - 1) = [] := by
  unfold dwn; rw [show (u - 1 - (u - 1)).toNat = 0 by omega]; rfl
/-- The bars of the uses with these numbers. -/
def brsOf (ln : Int → Int) (pt : Int → Int → Int) (cnt : Int → Int) (l : List Int) : List (List Int) := l.flatMap fun i => List.replicate (cnt i).toNat (lst (ln i) (pt i))
theorem brsOf_snoc (ln : Int → Int) (pt : Int → Int → Int) (cnt : Int → Int) (l : List Int) (x : Int) : brsOf ln pt cnt (l ++ [x]) = brsOf ln pt cnt l ++ List.replicate (cnt x).toNat (lst (ln x) (pt x)) := by simp [brsOf]
theorem brs_len {ln cnt : Int → Int} {pt : Int → Int → Int} {u : Int} (u0 : 0 ≤ u) (hc : ∀ k, 0 ≤ k → k < u → 0 ≤ cnt k) : ∀ t : Nat, (t : Int) ≤ u → ((brsOf ln pt cnt (dwnN u t)).length : Int) = psum (fun _ => 1) cnt u.toNat - psum (fun _ => 1) cnt (u - t).toNat
  | 0, _ => by simp [dwnN, brsOf]
  | t + 1, ht => by
    have h1 := brs_len (ln := ln) (pt := pt) u0 hc t (by omega)
    have h2 := hc (u - 1 - t) (by omega) (by omega)
    have h3 := psum_next (fun _ => 1) cnt (i := u - 1 - t) (by omega)
    rw [dwnN, brsOf_snoc, List.length_append, List.length_replicate]
    rw [show u - 1 - (t : Int) + 1 = u - t by omega] at h3
    rw [show u - ((t + 1 : Nat) : Int) = u - 1 - t by omega]
    push_cast
    rw [h1, h3, Int.toNat_of_nonneg h2]; omega
theorem brs_pos {ln cnt : Int → Int} {pt : Int → Int → Int} {u x c : Int} (hc : ∀ k, 0 ≤ k → k < u → 0 ≤ cnt k) (x0 : 0 ≤ x) (x1 : x < u) (c0 : 0 ≤ c) (c1 : c < cnt x) : ((brsOf ln pt cnt (dwn u x) ++ List.replicate c.toNat (lst (ln x) (pt x))).length : Int) < psum (fun _ => 1) cnt u.toNat := by
  have h1 := brs_len (ln := ln) (pt := pt) (by omega) hc (u - 1 - x).toNat (by omega)
  have h2 := psum_next (fun _ => 1) cnt x0
  have h3 := psum_mono (d := cnt) (f := fun _ => 1) (i := 0) (n := x.toNat) (by omega) fun k hk => by have := hc k (by omega) (by omega); omega
  rw [List.length_append, List.length_replicate]
  unfold dwn
  push_cast
  rw [h1, show (u - ((u - 1 - x).toNat : Int)).toNat = (x + 1).toNat by omega, h2]
  simp only [psum] at h3
  omega

theorem c_backw {vV : Value} {u : Int} {pv : Int → Value} {ln : Int → Int} {pt : Int → Int → Int} {cnt : Int → Int} (w0 : World) (hV : VAt w0 vV u pv ln pt cnt) :
    Calls Try.prog 107 [vV].toArray w0 fun e w => ∃ v, e = .returned v ∧ ∃ g, v = .func (.func 118) #[] #[.pointer (some ⟨g, 0, none⟩)] ∧ Sat w0 w [.blk g [vV]] := by
  refine zenG Try.func107 Try.ntmps107 fun w hS => ?_
  refine zsr ?_
  refine zla (xbx (cs := [_]) hS (hc := Slh.cells hV.row.slh)) ?_; rintro _ w ⟨g1, rfl, hS⟩
  replace hS := hS.n1
  refine zlv xas ?_
  refine zlz ?_
  refine zlv xmf ?_
  refine zlv xas ?_
  refine zlt <| zrt <| zf1 ⟨_, rfl, ?_⟩
  exact ⟨_, rfl, hS⟩

set_option maxRecDepth 20000 in
theorem c_back1 {vV : Value} {u : Int} {pv : Int → Value} {ln : Int → Int} {pt : Int → Int → Int} {cnt : Int → Int} {gq : Nat} {St : Type} (hist : St → List Int) (Inv : St → Prop) (s0 : St) (hs0 : hist s0 = []) (hI0 : Inv s0) (w0 : World) (hsV : Slh vV u) (hrV : ∀ k, 0 ≤ k → k < u → Slh (pv k) (ln k)) : ItC (St := St) (X := Int) (Tt := Unit) Try.prog w0 118 [.pointer (some ⟨gq, 0, none⟩)] [.blk gq [vV], .own vV 2 50 u (ucells pv cnt), .sem (Frame.rows 3 u pv ln pt)] (fun x => [.int .i64 x, .agg #[pv x, .int .i64 (cnt x)]]) (fun s x rest => Inv s ∧ 0 ≤ x ∧ x < u ∧ hist s = dwn u x) (fun s x s1 => hist s1 = hist s ++ [x] ∧ Inv s1) (fun _ _ _ => False) (s0) (fun s rest => Inv s ∧ hist s = dwn u (-1)) (fun _ _ => False) := by
  intro l C D w hS hY
  have hu := hsV.n0; have hu1 := hsV.n1
  refine henI Try.func118 Try.ntmps118 ?_
  refine hsq <| hrz ?_
  refine zlv (xlb 1 pl_43 hS) ?_
  refine zlv (xln sl_43 hsV) ?_
  refine zlv (xsub (r := u - 1)) ?_
  refine zlv xas ?_
  refine zln <| zh <| htn <| hbk <| hlp (fun mm M w => ∃ (s : St) (i : Int), mm = ((i + 1).toNat) ∧ (-1 ≤ i) ∧ (i < u) ∧ (Inv s) ∧ (hist s = dwn u i) ∧ M = [(0, .func (.yield l) #[] #[]), (1, .pointer (some ⟨gq, 0, none⟩)), (3, .int .i64 i)] ∧ Sat w0 w [.sem (C s), .blk gq [vV], .own vV 2 50 u (ucells pv cnt), .sem (Frame.rows 3 u pv ln pt)]) ⟨s0, u - 1, rfl, (by omega), (by omega), ?_, ?_, rfl, hS⟩ ?_
  ·
   exact hI0
  ·
   rw [hs0]; exact (dwn_start u).symm
  clear hS w
  rintro mm M w ⟨s, i, rfl, h0, h1, hI, hh, rfl, hS⟩
  refine hsq <| hsq <| hrz ?_
  refine zs2 ?_
  refine zln <| zh <| htn ?_
  refine hcif ?_ ?_ <;> intro hc
  ·
   refine hsk <| htn <| hsq <| hbk <| hsq <| hrg ?_
   iterate 2 refine hlv xmv ?_
   refine hlv (xlb 1 pl_43 hS) ?_
   refine hlv xmv ?_
   refine hlv (xix (kk := 2 * i) sl_43 hsV) ?_
   refine hlv (xlw (cs := [(pv i), .int .i64 (cnt i)]) st_50 (hS.rowN 2 rfl) (ucells_at (k := 2 * i) (i := i) pv cnt (by omega))) ?_
   refine hly (hY s i _ w ⟨hI, by omega, by omega, hh⟩ (Sat.bundle (l1 := [_, _, _, _]) (l2 := []) hS)) ?_; rintro _ w (⟨rfl, sy1, hny1, hS⟩ | ⟨rfl, ty1, hdy1, hS⟩)
   ·
    replace hS := Sat.unbundle (l1 := [_, _, _, _]) (l3 := []) hS
    replace hS := hS.n4
    refine hlv xnt ?_
    refine hln <| htn <| hcf <| hsk <| zbn <| htn <| hrz ?_
    refine zlv xmv ?_
    refine zlv (xsub (r := i - 1)) ?_
    refine zlv xas ?_
    refine zln <| zh <| hlq ⟨sy1, i - 1, rfl, (by omega), (by omega), ?_, ?_, rfl, hS⟩
    ·
     exact hny1.2
    ·
     rw [hny1.1, hh]; exact (dwn_next h1).symm
   ·
    replace hS := Sat.unbundle (l1 := [_, _, _, _]) (l3 := []) hS
    replace hS := hS.n4
    refine hlv xnf ?_
    refine hln <| htn <| hct <| hrt <| zbr <| ztr <| ztr <| zbr <| zf0 ⟨_, rfl, ?_⟩
    exact hdy1.elim
  refine hxt <| ztx <| ztx <| zbh <| zfn0 ⟨_, rfl, ?_⟩
  exact .inl ⟨s, _, ⟨hI, by rw [hh, show i = -1 by omega]⟩, Sat.bundle (l1 := [_, _, _, _]) (l2 := []) hS⟩

/-- A bar that is visited: its pattern, a slice of its own. -/
structure BX where
  v : Value
  n : Int
  f : Int → Int

set_option maxHeartbeats 4000000 in
set_option maxRecDepth 20000 in
theorem c_bars1 {vV : Value} {u : Int} {pv : Int → Value} {ln : Int → Int} {pt : Int → Int → Int} {cnt : Int → Int} {gq : Nat} {St : Type} (hist : St → List (List Int)) (Inv : St → Prop) (s0 : St) (hs0 : hist s0 = []) (hI0 : Inv s0) (w0 : World) (hsV : Slh vV u) (hrV : ∀ k, 0 ≤ k → k < u → Slh (pv k) (ln k)) (hlc : ∀ k, 0 ≤ k → k < u → ln k ≤ 1000000) (hcn : ∀ k, 0 ≤ k → k < u → 0 ≤ cnt k ∧ cnt k ≤ 1000000000) : ItG (St := St) (X := BX) (Tt := Unit) Try.prog w0 106 [.pointer (some ⟨gq, 0, none⟩)] [.blk gq [vV], .own vV 2 50 u (ucells pv cnt), .sem (Frame.rows 3 u pv ln pt)] (fun x => [x.v]) (fun x => [.own x.v 1 3 x.n (ints x.f)]) (fun s x rest => Inv s ∧ Slh x.v x.n ∧ ((hist s).length : Int) < psum (fun _ => 1) cnt u.toNat ∧ ∃ i, 0 ≤ i ∧ i < u ∧ x.n = ln i ∧ x.f = pt i) (fun s x s1 => hist s1 = hist s ++ [lst x.n x.f] ∧ Inv s1) (fun _ _ _ => False) (s0) (fun s rest => Inv s ∧ hist s = brsOf ln pt cnt (dwn u (-1))) (fun _ _ => False) := by
  intro l C D w hS hY
  have hu := hsV.n0; have hu1 := hsV.n1
  refine henIM Try.func106 Try.ntmps106 ?_
  refine hsq <| hrz ?_
  refine zla (xbx (cs := [_]) hS) ?_; rintro _ w ⟨g1, rfl, hS⟩
  replace hS := hS.n5
  refine zln <| zh <| htn <| hsq <| hrz ?_
  refine zlv (xlb 1 pl_43 hS) ?_
  refine zlc (xc0 cl_107) (c_backw (u := u) (pv := pv) (ln := ln) (pt := pt) (cnt := cnt) w (⟨(hS.rowN 2 rfl), fun k k0 k1 => hS.rowIn 3 rfl k0 k1, fun k k0 k1 => hS.roomIn 3 rfl k0 k1⟩ : VAt _ vV u pv ln pt cnt)) ?_; rintro _ w ⟨g2, rfl, hS'⟩
  replace hS : Sat w0 w [.sem (C s0), .blk gq [vV], .own vV 2 50 u (ucells pv cnt), .sem (Frame.rows 3 u pv ln pt), .blk g1 [.func (.yield l) #[] #[]], .blk g2 [vV]] := hS.comp hS'; clear hS'
  refine zln <| zh <| htn <| hbk <| ?_
  refine hrf (St := St × List Int) (X := Int) (Tt := Unit) (fun s => [.sem (C s.1), .blk gq [vV], .blk g1 [.func (.yield l) #[] #[]]]) (fun t => []) (fun _ => .ret) (s0, []) (fun x M es => ∃ (g3 : Nat), M = [(0, .func (.yield l) #[] #[]), (1, .pointer (some ⟨gq, 0, none⟩)), (2, .pointer (some ⟨g1, 0, none⟩)), (5, vV), (6, .func (.func 118) #[] #[.pointer (some ⟨g2, 0, none⟩)]), (7, .int .i64 x), (8, .agg #[(pv x), .int .i64 (cnt x)]), (4, .pointer (some ⟨g3, 0, none⟩))] ∧ es = [.blk g3 [(pv x), .int .i64 (cnt x)]]) (c_back1 (gq := g2) (fun s => s.2) (fun s => Inv s.1 ∧ hist s.1 = brsOf ln pt cnt s.2) (s0, []) rfl ⟨hI0, hs0⟩ w0 hsV hrV) (hS.pk [0, 1, 4, 5, 2, 3]) cl_118 (fun _ => rfl) (fun _ => .inl rfl) ?_ ?_ ?_ ?_
  ·
   intro lq s x rest w hpre rest1 hrr hS
   obtain ⟨⟨hI1, hh1⟩, x0, x1, hs2⟩ := hpre
   have hlx := hlc x x0 x1; have hcx := hcn x x0 x1
   replace hS := hS.n7
   refine hrz ?_
   refine zla (xal (cs := [_, _]) el_50 hS) ?_; rintro _ w ⟨g3, rfl, hS⟩
   replace hS := hS.n8
   refine zle (xsw 7 st_50 hS (hd := (ones_cons (hrV x (by omega) (by omega)).one (ones_cons rfl ones_nil)))) ?_; clear hS; rintro w hS
   replace hS := hS.n8
   refine zln <| zh <| hasg ⟨g3, rfl, rfl⟩ hS
  ·
   rintro lq s x _ _ rest w hpre ⟨g3, rfl, rfl⟩ rest1 hrr hS
   obtain ⟨⟨hI1, hh1⟩, x0, x1, hs2⟩ := hpre
   have hlx := hlc x x0 x1; have hcx := hcn x x0 x1
   replace hS := hS.n8
   refine hbk <| hsq <| hrz ?_
   refine zlv (xfb 1 fd_50_1) ?_
   refine zlv (xlb 7 pl_3 hS) ?_
   refine zlv xmv ?_
   refine zln <| zh <| htn <| hbk <| hlp (fun mm M w => ∃ (s3 : St) (c : Int), mm = ((cnt x - c).toNat) ∧ (0 ≤ c) ∧ (c ≤ cnt x) ∧ (Inv s3) ∧ (hist s3 = brsOf ln pt cnt s.2 ++ List.replicate c.toNat (lst (ln x) (pt x))) ∧ M = [(2, .pointer (some ⟨g1, 0, none⟩)), (4, .pointer (some ⟨g3, 0, none⟩)), (10, .int .i64 (cnt x)), (11, .int .i64 c)] ∧ Sat w0 w [.sem (C s3), .blk gq [vV], .blk g1 [.func (.yield l) #[] #[]], .blk g2 [vV], .own vV 2 50 u (ucells pv cnt), .sem (Frame.rows 3 u pv ln pt), .sem rest1, .blk g3 [(pv x), .int .i64 (cnt x)]]) ⟨s.1, 0, rfl, (by omega), (by omega), ?_, ?_, rfl, hS⟩ ?_
   ·
    exact hI1
   ·
    rw [hh1]; simp
   clear hS w
   rintro mm M w ⟨s3, c, rfl, c0, c1, hI3, hh3, rfl, hS⟩
   refine hsq <| hrz ?_
   refine zlv xlss ?_
   refine zln <| zh <| htn <| hsq ?_
   refine hcif ?_ ?_ <;> intro hc
   ·
    refine hsk <| htn <| hsq <| hbk <| hsq ?_
    refine hdr 6 mx_ hS ?_; clear hS; intro w hS
    refine hd2 0 1 ?_ ?_
    ·
     refine hov (xlb 2 pl_75 hS) ?_
     refine hd1 1 ?_
     refine hov (xfb 0 fd_50_0) ?_
     refine hd1 2 ?_
     refine hov (xlb 7 pl_22 hS) ?_
     refine hd1 3 ?_
     refine hoc (xc0 cl_42) (c_clone (n := (ln x)) (f := (pt x)) w (hS.rowIn (k := x) 5 rfl (by omega) (by omega)) (by omega)) ?_; rintro vq1 w ⟨_, rfl, hslq1, hS'⟩
     replace hS : Sat w0 w [.sem (C s3), .blk gq [vV], .blk g1 [.func (.yield l) #[] #[]], .blk g2 [vV], .own vV 2 50 u (ucells pv cnt), .sem (Frame.rows 3 u pv ln pt), .sem rest1, .blk g3 [(pv x), .int .i64 (cnt x)], .own vq1 1 3 (ln x) (ints (pt x))] := hS.comp hS'; clear hS'
     refine hd1 4 ?_
     replace hS := hS.pk [0, 1, 4, 5, 2, 3, 6, 7, 8]
     replace hS := hS.n9
     replace hS := hS.pk [0, 1, 2, 3, 8, 4, 5, 6, 7]
     replace hS := hS.n9
     refine hoy (hY s3 ⟨vq1, ln x, pt x⟩ _ w ⟨hI3, hslq1, by rw [hh3, hs2]; exact brs_pos (fun k k0 k1 => (hcn k k0 k1).1) x0 x1 c0 (by omega), x, x0, x1, rfl, rfl⟩ (Sat.bundle (l1 := [_, _, _, _, _]) hS)) ?_; rintro _ w (⟨rfl, sy1, hny1, hS⟩ | ⟨rfl, ty1, hdy1, hS⟩)
     ·
      replace hS := Sat.unbundle (l1 := [_, _, _, _]) (l3 := []) hS
      replace hS := hS.n8
      refine hd1 5 ?_
      refine hov xnt ?_
      refine hd0 <| htn <| hcf <| hsk <| zbn <| htn <| hrz ?_
      refine zlv (xadd (r := c + 1)) ?_
      refine zlv xmv ?_
      refine zln <| zh <| hlq ⟨sy1, c + 1, rfl, (by omega), (by omega), ?_, ?_, rfl, hS.pk [0, 1, 4, 5, 2, 3, 6, 7]⟩
      ·
       exact hny1.2
      ·
       rw [hny1.1, hh3, show (c + 1).toNat = c.toNat + 1 by omega, List.replicate_succ', List.append_assoc]
     ·
      replace hS := Sat.unbundle (l1 := [_, _, _, _]) (l3 := []) hS
      replace hS := hS.n8
      refine hd1 5 ?_
      refine hov xnf ?_
      refine hd0 <| htn <| hct <| hrt <| zbr <| ztr <| ztr <| zbr <| zbr <| hrdR () hdy1.elim rfl (hS.pk [5, 2, 3, 6])
    ·
     refine hov (xfb 0 fd_50_0) ?_
     refine hd2 0 2 ?_ ?_
     ·
      refine hov (xlb 2 pl_75 hS) ?_
      refine hd1 2 ?_
      refine hov (xlb 7 pl_22 hS) ?_
      refine hd1 3 ?_
      refine hoc (xc0 cl_42) (c_clone (n := (ln x)) (f := (pt x)) w (hS.rowIn (k := x) 5 rfl (by omega) (by omega)) (by omega)) ?_; rintro vq1 w ⟨_, rfl, hslq1, hS'⟩
      replace hS : Sat w0 w [.sem (C s3), .blk gq [vV], .blk g1 [.func (.yield l) #[] #[]], .blk g2 [vV], .own vV 2 50 u (ucells pv cnt), .sem (Frame.rows 3 u pv ln pt), .sem rest1, .blk g3 [(pv x), .int .i64 (cnt x)], .own vq1 1 3 (ln x) (ints (pt x))] := hS.comp hS'; clear hS'
      refine hd1 4 ?_
      replace hS := hS.pk [0, 1, 4, 5, 2, 3, 6, 7, 8]
      replace hS := hS.n9
      replace hS := hS.pk [0, 1, 2, 3, 8, 4, 5, 6, 7]
      replace hS := hS.n9
      refine hoy (hY s3 ⟨vq1, ln x, pt x⟩ _ w ⟨hI3, hslq1, by rw [hh3, hs2]; exact brs_pos (fun k k0 k1 => (hcn k k0 k1).1) x0 x1 c0 (by omega), x, x0, x1, rfl, rfl⟩ (Sat.bundle (l1 := [_, _, _, _, _]) hS)) ?_; rintro _ w (⟨rfl, sy1, hny1, hS⟩ | ⟨rfl, ty1, hdy1, hS⟩)
      ·
       replace hS := Sat.unbundle (l1 := [_, _, _, _]) (l3 := []) hS
       replace hS := hS.n8
       refine hd1 5 ?_
       refine hov xnt ?_
       refine hd0 <| htn <| hcf <| hsk <| zbn <| htn <| hrz ?_
       refine zlv (xadd (r := c + 1)) ?_
       refine zlv xmv ?_
       refine zln <| zh <| hlq ⟨sy1, c + 1, rfl, (by omega), (by omega), ?_, ?_, rfl, hS.pk [0, 1, 4, 5, 2, 3, 6, 7]⟩
       ·
        exact hny1.2
       ·
        rw [hny1.1, hh3, show (c + 1).toNat = c.toNat + 1 by omega, List.replicate_succ', List.append_assoc]
      ·
       replace hS := Sat.unbundle (l1 := [_, _, _, _]) (l3 := []) hS
       replace hS := hS.n8
       refine hd1 5 ?_
       refine hov xnf ?_
       refine hd0 <| htn <| hct <| hrt <| zbr <| ztr <| ztr <| zbr <| zbr <| hrdR () hdy1.elim rfl (hS.pk [5, 2, 3, 6])
     ·
      refine hov (xlb 7 pl_22 hS) ?_
      refine hd2 0 3 ?_ ?_
      ·
       refine hov (xlb 2 pl_75 hS) ?_
       refine hd1 3 ?_
       refine hoc (xc0 cl_42) (c_clone (n := (ln x)) (f := (pt x)) w (hS.rowIn (k := x) 5 rfl (by omega) (by omega)) (by omega)) ?_; rintro vq1 w ⟨_, rfl, hslq1, hS'⟩
       replace hS : Sat w0 w [.sem (C s3), .blk gq [vV], .blk g1 [.func (.yield l) #[] #[]], .blk g2 [vV], .own vV 2 50 u (ucells pv cnt), .sem (Frame.rows 3 u pv ln pt), .sem rest1, .blk g3 [(pv x), .int .i64 (cnt x)], .own vq1 1 3 (ln x) (ints (pt x))] := hS.comp hS'; clear hS'
       refine hd1 4 ?_
       replace hS := hS.pk [0, 1, 4, 5, 2, 3, 6, 7, 8]
       replace hS := hS.n9
       replace hS := hS.pk [0, 1, 2, 3, 8, 4, 5, 6, 7]
       replace hS := hS.n9
       refine hoy (hY s3 ⟨vq1, ln x, pt x⟩ _ w ⟨hI3, hslq1, by rw [hh3, hs2]; exact brs_pos (fun k k0 k1 => (hcn k k0 k1).1) x0 x1 c0 (by omega), x, x0, x1, rfl, rfl⟩ (Sat.bundle (l1 := [_, _, _, _, _]) hS)) ?_; rintro _ w (⟨rfl, sy1, hny1, hS⟩ | ⟨rfl, ty1, hdy1, hS⟩)
       ·
        replace hS := Sat.unbundle (l1 := [_, _, _, _]) (l3 := []) hS
        replace hS := hS.n8
        refine hd1 5 ?_
        refine hov xnt ?_
        refine hd0 <| htn <| hcf <| hsk <| zbn <| htn <| hrz ?_
        refine zlv (xadd (r := c + 1)) ?_
        refine zlv xmv ?_
        refine zln <| zh <| hlq ⟨sy1, c + 1, rfl, (by omega), (by omega), ?_, ?_, rfl, hS.pk [0, 1, 4, 5, 2, 3, 6, 7]⟩
        ·
         exact hny1.2
        ·
         rw [hny1.1, hh3, show (c + 1).toNat = c.toNat + 1 by omega, List.replicate_succ', List.append_assoc]
       ·
        replace hS := Sat.unbundle (l1 := [_, _, _, _]) (l3 := []) hS
        replace hS := hS.n8
        refine hd1 5 ?_
        refine hov xnf ?_
        refine hd0 <| htn <| hct <| hrt <| zbr <| ztr <| ztr <| zbr <| zbr <| hrdR () hdy1.elim rfl (hS.pk [5, 2, 3, 6])
      ·
       refine hoc (xc0 cl_42) (c_clone (n := (ln x)) (f := (pt x)) w (hS.rowIn (k := x) 5 rfl (by omega) (by omega)) (by omega)) ?_; rintro vq1 w ⟨_, rfl, hslq1, hS'⟩
       replace hS : Sat w0 w [.sem (C s3), .blk gq [vV], .blk g1 [.func (.yield l) #[] #[]], .blk g2 [vV], .own vV 2 50 u (ucells pv cnt), .sem (Frame.rows 3 u pv ln pt), .sem rest1, .blk g3 [(pv x), .int .i64 (cnt x)], .own vq1 1 3 (ln x) (ints (pt x))] := hS.comp hS'; clear hS'
       refine hd1 0 ?_
       refine hov (xlb 2 pl_75 hS) ?_
       refine hd1 4 ?_
       replace hS := hS.pk [0, 1, 4, 5, 2, 3, 6, 7, 8]
       replace hS := hS.n9
       replace hS := hS.pk [0, 1, 2, 3, 8, 4, 5, 6, 7]
       replace hS := hS.n9
       refine hoy (hY s3 ⟨vq1, ln x, pt x⟩ _ w ⟨hI3, hslq1, by rw [hh3, hs2]; exact brs_pos (fun k k0 k1 => (hcn k k0 k1).1) x0 x1 c0 (by omega), x, x0, x1, rfl, rfl⟩ (Sat.bundle (l1 := [_, _, _, _, _]) hS)) ?_; rintro _ w (⟨rfl, sy1, hny1, hS⟩ | ⟨rfl, ty1, hdy1, hS⟩)
       ·
        replace hS := Sat.unbundle (l1 := [_, _, _, _]) (l3 := []) hS
        replace hS := hS.n8
        refine hd1 5 ?_
        refine hov xnt ?_
        refine hd0 <| htn <| hcf <| hsk <| zbn <| htn <| hrz ?_
        refine zlv (xadd (r := c + 1)) ?_
        refine zlv xmv ?_
        refine zln <| zh <| hlq ⟨sy1, c + 1, rfl, (by omega), (by omega), ?_, ?_, rfl, hS.pk [0, 1, 4, 5, 2, 3, 6, 7]⟩
        ·
         exact hny1.2
        ·
         rw [hny1.1, hh3, show (c + 1).toNat = c.toNat + 1 by omega, List.replicate_succ', List.append_assoc]
       ·
        replace hS := Sat.unbundle (l1 := [_, _, _, _]) (l3 := []) hS
        replace hS := hS.n8
        refine hd1 5 ?_
        refine hov xnf ?_
        refine hd0 <| htn <| hct <| hrt <| zbr <| ztr <| ztr <| zbr <| zbr <| hrdR () hdy1.elim rfl (hS.pk [5, 2, 3, 6])
   refine hxt <| ztx <| ztx <| zbh <| zbn <| hrdN (s3, s.2 ++ [x]) ⟨rfl, hI3, by show hist s3 = _; rw [hh3, brsOf_snoc, show c.toNat = (cnt x).toNat by omega]⟩ (hS.pk [0, 1, 2, 3, 4, 5, 6])
  ·
   intro Dk s rest w hfin hS
   replace hS := hS.n8
   refine zbn <| hmkn1 7 hS fun w hS => zfn0 ⟨_, rfl, ?_⟩
   replace hS := hS.pk [0, 1, 4, 5, 2, 3, 6, 7]
   exact .inl ⟨s.1, _, ⟨hfin.1.1, by rw [hfin.1.2, hfin.2]⟩, Sat.bundle (l1 := [_, _, _, _]) hS⟩
  ·
   intro Dk t rest w hfin hS
   replace hS := hS.n5
   exact hfin.elim

theorem c_pbarsq {vV : Value} {u : Int} {pv : Int → Value} {ln : Int → Int} {pt : Int → Int → Int} {cnt : Int → Int} (w0 : World) (hV : VAt w0 vV u pv ln pt cnt) :
    Calls Try.prog 84 [vV].toArray w0 fun e w => ∃ v, e = .returned v ∧ ∃ g, v = .func (.func 106) #[] #[.pointer (some ⟨g, 0, none⟩)] ∧ Sat w0 w [.blk g [vV]] := by
  refine zenG Try.func84 Try.ntmps84 fun w hS => ?_
  refine zsr ?_
  refine zla (xbx (cs := [_]) hS (hc := Slh.cells hV.row.slh)) ?_; rintro _ w ⟨g1, rfl, hS⟩
  replace hS := hS.n1
  refine zlv xas ?_
  refine zlz ?_
  refine zlv xmf ?_
  refine zlv xas ?_
  refine zlt <| zrt <| zf1 ⟨_, rfl, ?_⟩
  exact ⟨_, rfl, hS⟩

/-! Trimming as a function of the bars. -/
def tA (a m : List Int) : List Int := List.zipWith (fun x y => x - min x y) a m
def tM (a m : List Int) : List Int := List.zipWith (fun x y => y - min x y) a m
def tStep (s : List Int × Us) (a : List Int) : List Int × Us := (tM a s.1, if (tA a s.1).any (fun x => decide (0 < x)) then s.2 ++ [(tA a s.1, 1)] else s.2)
def tRun (m0 : List Int) (h : List (List Int)) : List Int × Us := h.foldl tStep (m0, [])
theorem tRun_snoc (m0 : List Int) (h : List (List Int)) (a : List Int) : tRun m0 (h ++ [a]) = tStep (tRun m0 h) a := by simp [tRun]
theorem zip_lst (F : Int → Int → Int) (n : Int) (f g : Int → Int) : List.zipWith F (lst n f) (lst n g) = lst n fun k => F (f k) (g k) := by
  apply List.ext_getElem?
  intro k
  rw [List.getElem?_zipWith, lst_get, lst_get, lst_get]
  by_cases hk : (k : Int) < n
  · rw [if_pos hk, if_pos hk, if_pos hk]
  · rw [if_neg hk, if_neg hk, if_neg hk]
theorem any_lst {n : Int} {f : Int → Int} : (lst n f).any (fun x => decide (0 < x)) = true ↔ ∃ k, 0 ≤ k ∧ k < n ∧ 0 < f k := by
  rw [List.any_eq_true]
  constructor
  · rintro ⟨x, hx, h0⟩
    unfold lst at hx
    obtain ⟨k, hk, rfl⟩ := List.mem_map.1 hx
    have := List.mem_range.1 hk
    exact ⟨(k : Int), by omega, by omega, by simpa using h0⟩
  · rintro ⟨k, k0, k1, h⟩
    refine ⟨f k, ?_, by simpa using h⟩
    have := lst_get n f k.toNat
    rw [Int.toNat_of_nonneg k0, if_pos k1] at this
    exact List.mem_of_getElem? this
/-- All bars of a plan, from the last use to the first. -/
def brsU (l : Us) : List (List Int) := l.reverse.flatMap fun u => List.replicate u.2.toNat u.1
theorem dwnN_cons (u : Int) : ∀ t : Nat, dwnN (u + 1) (t + 1) = u :: dwnN u t
  | 0 => by simp [dwnN]
  | t + 1 => by
    rw [dwnN, dwnN_cons u t, dwnN, List.cons_append]
    congr 2
    congr 1
    push_cast; omega
theorem brsOf_plL (ln : Int → Int) (pt : Int → Int → Int) (cnt : Int → Int) {n : Int} (n0 : 0 ≤ n) : brsOf ln pt cnt (dwn n (-1)) = brsU (plL n ln pt cnt) := by
  obtain ⟨k, rfl⟩ := Int.eq_ofNat_of_zero_le n0
  have e : ∀ k : Nat, (dwnN (k : Int) k).map (fun i => (lst (ln i) (pt i), cnt i)) = (plL (k : Int) ln pt cnt).reverse := by
    intro k
    induction k with
    | zero => simp [dwnN, plL]
    | succ k ih => rw [show ((k + 1 : Nat) : Int) = (k : Int) + 1 by omega, dwnN_cons, List.map_cons, ih, plL_next (by omega), List.reverse_append]; rfl
  unfold brsOf brsU dwn
  rw [show ((k : Int) - 1 - (-1)).toNat = k by omega, ← e k, List.flatMap_map]
/-- The state of trimming in memory. -/
structure TSt where
  h : List (List Int)
  M : Int → Int
  vO : Value
  n : Int
  vv : Int → Value
  P : Int → Int → Int
  C : Int → Int
def TInv (p : Prob) (m0 : List Int) (s : TSt) : Prop := (lst p.m s.M, plL s.n (fun _ => p.m) s.P s.C) = tRun m0 s.h ∧ Slh s.vO s.n ∧ (∀ k, 0 ≤ k → k < p.m → 0 ≤ s.M k ∧ s.M k ≤ 2000000000) ∧ s.n ≤ s.h.length ∧ ∀ k, 0 ≤ k → k < s.n → s.C k = 1
theorem TInv.yes {p : Prob} {m0 : List Int} {s : TSt} {a a2 M2 : Int → Int} (hs : (lst p.m s.M, plL s.n (fun _ => p.m) s.P s.C) = tRun m0 s.h) (n0 : 0 ≤ s.n) (ha : ∀ k, 0 ≤ k → k < p.m → a2 k = a k - min (a k) (s.M k)) (hM : ∀ k, 0 ≤ k → k < p.m → M2 k = s.M k - min (a k) (s.M k)) (hx : ∃ k, 0 ≤ k ∧ k < p.m ∧ 0 < a2 k) {P2 : Int → Int → Int} {C2 : Int → Int} (hP : ∀ k, 0 ≤ k → k < s.n → P2 k = s.P k) (hP2 : P2 s.n = a2) (hC : ∀ k, 0 ≤ k → k < s.n → C2 k = s.C k) (hC2 : C2 s.n = 1) :
    (lst p.m M2, plL (s.n + 1) (fun _ => p.m) P2 C2) = tRun m0 (s.h ++ [lst p.m a]) := by
  rw [tRun_snoc, ← hs]
  unfold tStep tM tA
  dsimp only
  rw [zip_lst, zip_lst, lst_congr (f := fun k => a k - min (a k) (s.M k)) (g := a2) fun k k0 k1 => (ha k k0 k1).symm, if_pos (any_lst.2 hx), lst_congr (f := fun k => s.M k - min (a k) (s.M k)) (g := M2) fun k k0 k1 => (hM k k0 k1).symm]
  congr 1
  exact plL_snoc (ln := fun _ => p.m) n0 (fun k k0 k1 => ⟨rfl, hC k k0 k1, hP k k0 k1⟩) rfl hC2 hP2
theorem TInv.no {p : Prob} {m0 : List Int} {s : TSt} {a a2 M2 : Int → Int} (hs : (lst p.m s.M, plL s.n (fun _ => p.m) s.P s.C) = tRun m0 s.h) (ha : ∀ k, 0 ≤ k → k < p.m → a2 k = a k - min (a k) (s.M k)) (hM : ∀ k, 0 ≤ k → k < p.m → M2 k = s.M k - min (a k) (s.M k)) (hx : ¬ ∃ k, 0 ≤ k ∧ k < p.m ∧ 0 < a2 k) :
    (lst p.m M2, plL s.n (fun _ => p.m) s.P s.C) = tRun m0 (s.h ++ [lst p.m a]) := by
  rw [tRun_snoc, ← hs]
  unfold tStep tM tA
  dsimp only
  rw [zip_lst, zip_lst, lst_congr (f := fun k => a k - min (a k) (s.M k)) (g := a2) fun k k0 k1 => (ha k k0 k1).symm, if_neg (fun h => hx (any_lst.1 h)), lst_congr (f := fun k => s.M k - min (a k) (s.M k)) (g := M2) fun k k0 k1 => (hM k k0 k1).symm]
/-- What Trim returns. -/
def TrimR (p : Prob) (u : Int) (ln : Int → Int) (pt : Int → Int → Int) (cnt : Int → Int) (out : Us) (e : Int) : Prop :=
  (¬ PlanOk p u ln pt cnt ∧ out = [] ∧ e = 1) ∨ (PlanOk p u ln pt cnt ∧ ¬ (∀ j, 0 ≤ j → j < p.m → p.D j ≤ madeF u pt cnt j) ∧ out = [] ∧ e = 18) ∨
  (PlanOk p u ln pt cnt ∧ (∀ j, 0 ≤ j → j < p.m → p.D j ≤ madeF u pt cnt j) ∧ e = 0 ∧ ∃ N, NormR (plL u ln pt cnt) N ∧ NormR (tRun (lst p.m fun j => madeF u pt cnt j - p.D j) (brsU N)).2 out)
theorem norm_fits {p : Prob} {u n2 : Int} {ln cnt ln2 cnt2 : Int → Int} {pt pt2 : Int → Int → Int} (h : PlanOk p u ln pt cnt) (hN : NormR (plL u ln pt cnt) (plL n2 ln2 pt2 cnt2)) (hl2 : ∀ k, 0 ≤ k → k < n2 → 0 ≤ ln2 k) : ∀ k, 0 ≤ k → k < n2 → ln2 k = p.m ∧ ∀ j, 0 ≤ j → j < p.m → 0 ≤ pt2 k j ∧ pt2 k j ≤ 2000 := by
  intro k k0 k1
  have hm : (lst (ln2 k) (pt2 k), cnt2 k) ∈ plL n2 ln2 pt2 cnt2 := List.mem_iff_getElem?.2 ⟨k.toNat, by rw [plL_get, Int.toNat_of_nonneg k0, if_pos k1]⟩
  obtain ⟨y, hy, e1⟩ := hN.keys _ hm
  obtain ⟨i, hi⟩ := List.mem_iff_getElem?.1 hy
  rw [plL_get] at hi
  split at hi
  · rename_i hlt
    injection hi with hi
    obtain ⟨_, _, hf⟩ := h.2.2 i (by omega) hlt
    have hm1 := h.1.m1
    rw [← hi] at e1
    dsimp only at e1
    obtain ⟨q1, q2⟩ := (lst_eq (by have := hf.eq; omega) (hl2 k k0 k1)).1 e1
    refine ⟨by have := hf.eq; omega, fun j j0 j1 => ?_⟩
    rw [← q2 j j0 (by have := hf.eq; omega)]
    exact hf.all j j0 (by have := hf.eq; omega)
  · cases hi
theorem norm_bars {p : Prob} {u n2 : Int} {ln cnt ln2 cnt2 : Int → Int} {pt pt2 : Int → Int → Int} (u0 : 0 ≤ u) (n0 : 0 ≤ n2) (h : PlanOk p u ln pt cnt) (hN : NormR (plL u ln pt cnt) (plL n2 ln2 pt2 cnt2)) : psum (fun _ => 1) cnt2 n2.toNat ≤ 1000000 := by
  have h1 := hN.wsum fun _ => 1
  rw [wsum_plL' _ u0, wsum_plL' _ n0] at h1
  rw [h1]
  have key : ∀ t : Nat, (t : Int) ≤ u → psum (fun _ => 1) cnt t ≤ 1000 * t := by
    intro t
    induction t with
    | zero => intro _; simp [psum]
    | succ t ih => intro ht; have := ih (by omega); have := (h.2.2 t (by omega) (by omega)).2.1; simp only [psum]; push_cast; omega
  have h2 := key u.toNat (by omega)
  have h3 := h.2.1
  omega
theorem dnn9 {p : Prob} (hp : p.Ok) {k : Int} (k0 : 0 ≤ k) (k1 : k < p.m) : 0 ≤ p.D k ∧ p.D k ≤ 1000 := by
  have he := hp.all k k0 k1
  unfold Prob.each at he; omega
theorem snoc_ones {C : Int → Int} {n : Int} (h : ∀ k, 0 ≤ k → k < n → C k = 1) : ∀ k, 0 ≤ k → k < n + 1 → snoc C n 1 k = 1 := fun k k0 k1 => by
  by_cases e : k < n
  · rw [snoc_lt e]; exact h k k0 e
  · exact snoc_at e

theorem c_tpos {x : Int} (w0 : World) :
    Calls Try.prog 85 [.int .i64 x].toArray w0 fun e w => ∃ v, e = .returned v ∧ v = B (0 < x) ∧ Sat w0 w [] := by
  refine zenG Try.func85 Try.ntmps85 fun w hS => ?_
  refine zsr ?_
  refine zlv xas ?_
  refine zlz ?_
  refine zs3 ?_
  refine zlt <| zrt <| zf1 ⟨_, rfl, ?_⟩
  exact ⟨B_congr (by omega), hS⟩

set_option maxRecDepth 20000 in
theorem c_ixpos {v : Value} {n : Int} {f : Int → Int} (w0 : World) (hR : Row w0 v 1 n (ints f)) :
    Calls Try.prog 78 [v, .func (.func 85) #[] #[]].toArray w0 fun e w => ∃ v, e = .returned v ∧ ∃ r : Int, v = .int .i64 r ∧ ((r = -1 ∧ ∀ k, 0 ≤ k → k < n → ¬ (0 < f k)) ∨ (0 ≤ r ∧ r < n ∧ (0 < f r) ∧ ∀ k, 0 ≤ k → k < r → ¬ (0 < f k))) ∧ Sat w0 w [] := by
  have hn := hR.slh.n0; have hn1 := hR.slh.n1
  refine zenG Try.func78 Try.ntmps78 fun w hS => ?_
  refine zsr ?_
  refine zlv xas ?_
  refine zlt <| zsq <| zsr ?_
  refine zlv xmv ?_
  refine zlv (xln sl_22 hR.slh) ?_
  refine zlv xmv ?_
  refine zlt <| zbk <| zlp (fun mm M w => ∃ (i : Int), mm = ((n - i).toNat) ∧ (0 ≤ i) ∧ (i ≤ n) ∧ (∀ k, 0 ≤ k → k < i → ¬ (0 < f k)) ∧ M = [(0, v), (1, .func (.func 85) #[] #[]), (7, .int .i64 n), (8, .int .i64 i)] ∧ Sat w0 w []) ⟨0, rfl, (by omega), (by omega), ?_, rfl, hS⟩ ?_
  ·
   intro k h0 h1; omega
  clear hS w
  rintro mm M w ⟨i, rfl, h0, h1, hall, rfl, hS⟩
  refine zsr ?_
  refine zlv xlss ?_
  refine zlt <| zsq ?_
  refine zcif ?_ ?_ <;> intro hc
  ·
   refine zsk <| ztn <| zsq <| zbk <| zsr ?_
   refine zs2 ?_
   refine zlz ?_
   refine zs3 ?_
   refine zlv (xix (kk := i) sl_22 hR.slh) ?_
   refine zlv (xlr (u := .int .i64 (f i)) pl_3 (hR.below hS.below)) ?_
   refine zlc (xc0 cl_85) (c_tpos (x := (f i)) w) ?_; rintro _ w ⟨rfl, hS'⟩
   replace hS := hS.cmp hS'; clear hS'
   refine zlt ?_
   refine zcif ?_ ?_ <;> intro hc
   ·
    refine zsr ?_
    refine zs2 ?_
    refine zlt <| zrt <| zbr <| ztr <| ztr <| zbr <| ztr <| zf1 ⟨_, rfl, ?_⟩
    exact ⟨i, rfl, .inr ⟨by omega, by omega, ‹0 < f i›, hall⟩, hS⟩
   refine zsk <| zbn <| ztn <| zrg ?_
   refine zlv (xadd (r := i + 1)) ?_
   refine zlv xmv ?_
   refine zln <| zlq ⟨i + 1, rfl, (by omega), (by omega), ?_, rfl, hS⟩
   ·
    intro k h0' h1'; rcases Int.lt_or_eq_of_le (show k ≤ i by omega) with hk | hk; exact hall k h0' hk; rw [hk]; assumption
  refine zxt <| ztx <| ztx <| zbh <| ztn <| zsr ?_
  refine zlv xas ?_
  refine zlt <| zrt <| zf1 ⟨_, rfl, ?_⟩
  exact ⟨-1, rfl, .inl ⟨rfl, fun k h0 h1 => hall k h0 (by omega)⟩, hS⟩

set_option maxRecDepth 20000 in
theorem c_copos {v : Value} {n : Int} {f : Int → Int} (w0 : World) (hR : Row w0 v 1 n (ints f)) :
    Calls Try.prog 75 [v, .func (.func 85) #[] #[]].toArray w0 fun e w => ∃ v, e = .returned v ∧ v = B (∃ k, 0 ≤ k ∧ k < n ∧ 0 < f k) ∧ Sat w0 w [] := by
  refine zenG Try.func75 Try.ntmps75 fun w hS => ?_
  refine zsr ?_
  refine zlv xas ?_
  refine zlz ?_
  refine zs2 ?_
  refine zlc (xc0 cl_78) (c_ixpos (n := n) (f := f) w (hR.below hS.below)) ?_; rintro _ w ⟨r1, rfl, hr1, hS'⟩
  replace hS := hS.cmp hS'; clear hS'
  refine zs2 ?_
  refine zlt <| zrt <| zf1 ⟨_, rfl, ?_⟩
  exact ⟨B_congr (by
   rcases hr1 with ⟨h1, h2⟩ | ⟨h1, h2, h3, _⟩
   · exact ⟨fun h => by omega, fun ⟨k, h4, h5, h6⟩ => absurd h6 (h2 k h4 h5)⟩
   · exact ⟨fun _ => ⟨_, h1, h2, h3⟩, fun _ => h1⟩), hS⟩

set_option maxHeartbeats 4000000 in
set_option maxRecDepth 20000 in
theorem c_trim {vV : Value} {u : Int} {pv : Int → Value} {ln : Int → Int} {pt : Int → Int → Int} {cnt : Int → Int} {vL vD : Value} {p : Prob} (w0 : World) (hV : VAt w0 vV u pv ln pt cnt) (h : PAt w0 vL vD p) :
    Calls Try.prog 50 [.agg #[vL, vD, .int .i64 p.stock, .int .i64 p.kerf], vV].toArray w0 fun e w => ∃ v, e = .returned v ∧ ∃ r n2 pv2 ln2 pt2 cnt2 e, v = .tuple #[r, .int .i64 e] ∧ TrimR p u ln pt cnt (plL n2 ln2 pt2 cnt2) e ∧ (∀ k, 0 ≤ k → k < n2 → 1 ≤ cnt2 k ∧ cnt2 k ≤ 1000000000) ∧ n2 ≤ 1000000 ∧ Slh r n2 ∧ Sat w0 w [.own r 2 50 n2 (ucells pv2 cnt2), .sem (Frame.rows 3 n2 pv2 ln2 pt2)] := by
  have hm := h.L.slh.n0; have hm1 := h.L.slh.n1; have hd := h.D.slh.n0; have hd1 := h.D.slh.n1; have hs := h.is; have hk := h.ik
  have hu := hV.row.slh.n0; have hu1 := hV.row.slh.n1
  refine henM Try.func50 Try.ntmps50 fun w hS => ?_
  refine hsq <| hrz ?_
  refine zla (xbx (cs := [_, _, _, _]) hS) ?_; rintro _ w ⟨g1, rfl, hS⟩
  replace hS := hS.n1
  refine zs2 ?_
  refine zln <| zh <| htn <| hsq <| hrz ?_
  refine zlv (xls 0 st_39 hS) ?_
  refine zlv xmv ?_
  refine zlc (xc0 cl_49) (c_pmade (u := u) (pv := pv) (ln := ln) (pt := pt) (cnt := cnt) (p := p) w (hV.below hS.below) (h.below hS.below)) ?_; rintro _ w ⟨vdmd1, ndmd1, fdmd1, edmd1, rfl, hmdmd1, hvdmd1, hS'⟩
  replace hS : Sat w0 w [.blk g1 [vL, vD, .int .i64 p.stock, .int .i64 p.kerf], .own vdmd1 1 3 ndmd1 (ints fdmd1)] := hS.comp hS'; clear hS'
  refine zs3 ?_
  refine zla (xal (cs := [_]) el_22 hS) ?_; rintro _ w ⟨g2, rfl, hS⟩
  replace hS := hS.n3
  refine zle (xsb 2 pl_22 hS (hv := hvdmd1.one)) ?_; clear hS; rintro w hS
  replace hS := hS.n3
  refine zlv xas ?_
  refine zln <| zh <| htn <| hsq <| hsq <| hrz ?_
  refine zs2 ?_
  refine zln <| zh <| htn ?_
  refine hcif ?_ ?_ <;> intro hc
  ·
   refine hsq <| hrz ?_
   refine zs3 ?_
   refine zln <| zh <| htn <| hrt <| ztr <| hmk0 <| zf2 ⟨_, rfl, ?_⟩
   have hmd : ¬ PlanOk p u ln pt cnt ∧ edmd1 = 1 := by rcases hmdmd1 with ⟨g1, _, g3⟩ | ⟨_, _, _, g4⟩; exact ⟨g1, g3⟩; omega
   exact ⟨_, 0, fun _ => undef, fun _ => 0, fun _ _ => 0, fun _ => 0, _, rfl, .inl ⟨hmd.1, rfl, by omega⟩, fun k k0 k1 => by omega, by omega, slh_nil, ((hS.sub (.cons _ (.cons _ (.cons _ .slnil)))).addnil 2 50 (ucells (fun _ => undef) (fun _ => 0))).addrows 3 (fun _ => undef) (fun _ => 0) (fun _ _ => 0)⟩
  refine hsk <| htn <| hsq <| hsq <| hrz ?_
  refine zlv (xls 0 st_39 hS) ?_
  obtain ⟨hplo, hnd9, hfd9⟩ : PlanOk p u ln pt cnt ∧ ndmd1 = p.m ∧ fdmd1 = madeF u pt cnt := by rcases hmdmd1 with ⟨_, _, g3⟩ | ⟨g1, g2, g3, _⟩; omega; exact ⟨g1, g2, g3⟩
  have hpm1 := hplo.1.m1; have hpm2 := hplo.1.m2; have hpd := hplo.1.d; have hu3 := hplo.2.1
  refine zlv xmv ?_
  refine zlc (xc0 cl_83) (c_pmeets (u := u) (pv := pv) (ln := ln) (pt := pt) (cnt := cnt) (p := p) w (hV.below hS.below) (h.below hS.below)) ?_; rintro _ w ⟨rfl, hS'⟩
  replace hS := hS.cmp hS'; clear hS'
  refine zlv xnot ?_
  refine zln <| zh <| htn ?_
  refine hcif ?_ ?_ <;> intro hc
  ·
   refine hsq <| hrz ?_
   refine zs2 ?_
   refine zln <| zh <| htn <| hrt <| ztr <| hmk0 <| zf2 ⟨_, rfl, ?_⟩
   exact ⟨_, 0, fun _ => undef, fun _ => 0, fun _ _ => 0, fun _ => 0, _, rfl, .inr (.inl ⟨hplo, fun hh => ‹¬ (_ ∧ _)› ⟨hplo, hh⟩, rfl, rfl⟩), fun k k0 k1 => by omega, by omega, slh_nil, ((hS.sub (.cons _ (.cons _ (.cons _ .slnil)))).addnil 2 50 (ucells (fun _ => undef) (fun _ => 0))).addrows 3 (fun _ => undef) (fun _ => 0) (fun _ _ => 0)⟩
  refine hsk <| htn <| hsq <| hsq <| hrz ?_
  refine zlv (xlb 2 pl_22 hS) ?_
  have hmeet : ∀ j, 0 ≤ j → j < p.m → p.D j ≤ madeF u pt cnt j := (Classical.not_not.1 ‹¬ ¬ (_ ∧ _)›).2
  refine zlv (xln sl_22 hvdmd1) ?_
  refine zlv xmv ?_
  refine zln <| zh <| htn <| hbk <| hlp (fun mm M w => ∃ (fM : Int → Int) (i : Int), mm = ((ndmd1 - i).toNat) ∧ (0 ≤ i) ∧ (i ≤ ndmd1) ∧ (∀ k, 0 ≤ k → k < p.m → fM k = if k < i then madeF u pt cnt k - p.D k else madeF u pt cnt k) ∧ M = [(1, vV), (2, .pointer (some ⟨g1, 0, none⟩)), (4, .slice none 0 0), (5, .int .i64 0), (6, .pointer (some ⟨g2, 0, none⟩)), (27, .int .i64 ndmd1), (28, .int .i64 i)] ∧ Sat w0 w [.blk g1 [vL, vD, .int .i64 p.stock, .int .i64 p.kerf], .own vdmd1 1 3 ndmd1 (ints fM), .blk g2 [vdmd1]]) ⟨fdmd1, 0, rfl, (by omega), (by omega), ?_, rfl, hS⟩ ?_
  ·
   intro k k0 k1; rw [if_neg (by omega), hfd9]
  clear hS w
  rintro mm M w ⟨fM, i, rfl, h0, h1, hf, rfl, hS⟩
  refine hsq <| hrz ?_
  refine zlv xlss ?_
  refine zln <| zh <| htn <| hsq ?_
  refine hcif ?_ ?_ <;> intro hc
  ·
   refine hsk <| htn <| hsq <| hbk <| hsq <| hrz ?_
   refine zlv xmv ?_
   have hmi := madeF_rng hplo.2.2 hu (Int.le_refl _) (j := i) h0 (by omega)
   have hdi := dnn9 hplo.1 h0 (by omega : i < p.m)
   have hfi := hf i h0 (by omega)
   rw [if_neg (by omega)] at hfi
   refine zlv xas ?_
   refine zln <| zh <| htn ?_
   refine hdst [0, 1, 2] [0, 2] 11 mx_ hS ?_; clear hS; intro w hS
   refine zdla 0 (fun w hS => (xlb 1 pl_22 hS)) ?_
   refine zdv 1 (fun _ => xmv) ?_
   refine zdv 2 (fun _ => (xix (kk := i) sl_22 hvdmd1)) ?_
   refine zdl 3 (fun w hS => (xlr (u := .int .i64 (fM i)) pl_3 (hS.rowN 1 rfl))) ?_
   refine zdv 4 (fun _ => (xfb 1 fd_39_1)) ?_
   refine zdla 5 (fun w hS => (xlb 0 pl_22 hS)) ?_
   refine zdv 6 (fun _ => xmv) ?_
   refine zdv 7 (fun _ => (xix (kk := i) sl_22 h.D.slh)) ?_
   refine zdla 8 (fun w hS => (xlr (u := .int .i64 (p.D i)) pl_3 (h.D.below hS.below))) ?_
   have hbv := h.iD i
   refine zdv 9 (fun _ => (xsub (r := fM i - p.D i))) ?_
   refine zdv 10 (fun _ => (xix (kk := i) sl_22 hvdmd1)) ?_
   refine zde 11 (xso 1 pl_3 hS (upd_ints _ _ _)) ?_; clear hS; rintro w hS
   replace hS := hS.n3
   refine ⟨⟨fun h => absurd h (by decide), hS.pk [0, 2]⟩, ?_⟩
   refine zdd <| zh <| zbn <| htn <| hrz ?_
   refine zlv (xadd (r := i + 1)) ?_
   refine zlv xmv ?_
   refine zln <| zh <| hlq ⟨(upd fM i (fM i - p.D i)), i + 1, rfl, (by omega), (by omega), ?_, rfl, hS⟩
   ·
    intro k k0 k1; unfold upd; by_cases e : k = i
    · rw [if_pos e, if_pos (by omega), e]; omega
    · rw [if_neg e, hf k k0 k1]; by_cases e2 : k < i
      · rw [if_pos e2, if_pos (by omega)]
      · rw [if_neg e2, if_neg (by omega)]
  refine hxt <| ztx <| ztx <| zbh <| htn <| hsq <| hrz ?_
  refine zla (xal (cs := [_]) el_43 hS) ?_; rintro _ w ⟨g3, rfl, hS⟩
  replace hS := hS.n4
  refine zln <| zh <| htn <| hsq <| hsq <| hrz ?_
  refine zlv xmv ?_
  refine zlc (xc0 cl_80) (c_norm (u := u) (pv := pv) (ln := ln) (pt := pt) (cnt := cnt) w (hV.below hS.below) (by omega) (fun k k0 k1 => by have h9 := (hplo.2.2 k k0 k1).2.2.eq; omega) (fun k k0 k1 => by have h9 := hplo.2.2 k k0 k1; exact ⟨h9.1, h9.2.1⟩)) ?_; rintro vnn1 w ⟨_, nnn1, pnn1, lnn1, gnn1, cnn1, rfl, hnrn1, hn0n1, hn1n1, hncn1, hvnn1, hS'⟩
  replace hS : Sat w0 w [.blk g1 [vL, vD, .int .i64 p.stock, .int .i64 p.kerf], .own vdmd1 1 3 ndmd1 (ints fM), .blk g2 [vdmd1], .blk g3 [.slice none 0 0], .own vnn1 2 50 nnn1 (ucells pnn1 cnn1), .sem (Frame.rows 3 nnn1 pnn1 lnn1 gnn1)] := hS.comp hS'; clear hS'
  have hrnn1 := fun k (k0 : 0 ≤ k) (k1 : k < nnn1) => hS.slhIn 5 rfl k0 k1
  have hfM : ∀ k, 0 ≤ k → k < p.m → fM k = madeF u pt cnt k - p.D k := fun k k0 k1 => by rw [hf k k0 k1, if_pos (by omega)]
  have hln0 := fun k k0 k1 => (hrnn1 k k0 k1).n0
  have hfit := norm_fits hplo hnrn1 hln0
  have hbr9 := norm_bars hu hn0n1 hplo hnrn1
  refine zlc (xc0 cl_84) (c_pbarsq (u := nnn1) (pv := pnn1) (ln := lnn1) (pt := gnn1) (cnt := cnn1) w (⟨(hS.rowN 4 rfl), fun k k0 k1 => hS.rowIn 5 rfl k0 k1, fun k k0 k1 => hS.roomIn 5 rfl k0 k1⟩ : VAt _ vnn1 nnn1 pnn1 lnn1 gnn1 cnn1)) ?_; rintro _ w ⟨g4, rfl, hS'⟩
  replace hS : Sat w0 w [.blk g1 [vL, vD, .int .i64 p.stock, .int .i64 p.kerf], .own vdmd1 1 3 ndmd1 (ints fM), .blk g2 [vdmd1], .blk g3 [.slice none 0 0], .own vnn1 2 50 nnn1 (ucells pnn1 cnn1), .sem (Frame.rows 3 nnn1 pnn1 lnn1 gnn1), .blk g4 [vnn1]] := hS.comp hS'; clear hS'
  refine zln <| zh <| htn <| hbk ?_
  replace hS := hS.addnil 2 50 (ucells (fun _ => Value.slice none 0 0) (fun _ => 0))
  replace hS := hS.n8
  replace hS := hS.addrows 3 (fun _ => Value.slice none 0 0) (fun _ => p.m) (fun _ _ => 0)
  replace hS := hS.n9
  refine hrfG (St := TSt) (X := BX) (Tt := Unit) (fun s => [.blk g1 [vL, vD, .int .i64 p.stock, .int .i64 p.kerf], .blk g2 [vdmd1], .own vdmd1 1 3 ndmd1 (ints s.M), .blk g3 [s.vO], .own s.vO 2 50 s.n (ucells s.vv s.C), .sem (Frame.rows 3 s.n s.vv (fun _ => p.m) s.P)]) (fun t => []) (fun _ => .ret) (⟨[], fM, .slice none 0 0, 0, fun _ => .slice none 0 0, fun _ _ => 0, fun _ => 0⟩ : TSt) (fun x M es => M = [(1, vV), (2, .pointer (some ⟨g1, 0, none⟩)), (4, .slice none 0 0), (5, .int .i64 0), (6, .pointer (some ⟨g2, 0, none⟩)), (27, .int .i64 ndmd1), (28, .int .i64 i), (29, B (i < ndmd1)), (9, .pointer (some ⟨g3, 0, none⟩)), (43, vV), (44, vnn1), (45, .func (.func 106) #[] #[.pointer (some ⟨g4, 0, none⟩)]), (46, x.v), (10, x.v)] ∧ es = [.own x.v 1 3 x.n (ints x.f)]) (c_bars1 (gq := g4) (fun s => s.h) (TInv p (lst p.m fM)) (⟨[], fM, .slice none 0 0, 0, fun _ => .slice none 0 0, fun _ _ => 0, fun _ => 0⟩ : TSt) rfl ⟨rfl, slh_nil, fun k k0 k1 => by have h9 := hfM k k0 k1; have h8 := hmeet k k0 k1; have h7 := madeF_rng hplo.2.2 hu (Int.le_refl _) k0 k1; have h6 := (dnn9 hplo.1 k0 k1).1; have h5 := hplo.2.1; show 0 ≤ fM k ∧ fM k ≤ _; omega, by simp, fun k k0 k1 => by (have k1 : k < 0 := k1); omega⟩ w0 hvnn1 hrnn1 (fun k k0 k1 => by have := (hfit k k0 k1).1; omega) (fun k k0 k1 => by have := hncn1 k k0 k1; omega)) (hS.pk [0, 2, 1, 3, 7, 8, 6, 4, 5]) cl_106 (fun _ => rfl) (fun _ => .inl rfl) ?_ ?_ ?_ ?_
  ·
   intro lq s x rest w hpre rest1 hrr hS
   replace hS := hS.n11
   refine hrz ?_
   refine zlv xas ?_
   refine zln <| zh <| hasg ⟨rfl, rfl⟩ hS
  ·
   rintro lq s x _ _ rest w hpre ⟨rfl, rfl⟩ rest1 hrr hS
   replace hS := hS.n11
   obtain ⟨hIv, hxv, hlen, i, i0, i1, hxn, hxf⟩ := hpre
   obtain ⟨hIp, hlO, hMr, hnh, hC1⟩ := hIv
   have hrO := fun k (k0 : 0 ≤ k) (k1 : k < s.n) => hS.slhIn 5 rfl k0 k1
   obtain ⟨hfn, hfr⟩ := hfit i i0 i1
   rw [← hxn] at hfn
   rw [← hxf] at hfr
   have hsn := hlO.n0
   refine hbk <| hsq <| hsq <| hrz ?_
   refine zlv xmv ?_
   refine zlv (xln sl_22 hxv) ?_
   refine zlv xmv ?_
   refine zln <| zh <| htn <| hbk <| hlp (fun mm M w => ∃ (fa : Int → Int) (fm2 : Int → Int) (j : Int), mm = ((x.n - j).toNat) ∧ (0 ≤ j) ∧ (j ≤ x.n) ∧ (∀ k, 0 ≤ k → k < p.m → fa k = if k < j then x.f k - min (x.f k) (s.M k) else x.f k) ∧ (∀ k, 0 ≤ k → k < p.m → fm2 k = if k < j then s.M k - min (x.f k) (s.M k) else s.M k) ∧ M = [(4, .slice none 0 0), (5, .int .i64 0), (6, .pointer (some ⟨g2, 0, none⟩)), (9, .pointer (some ⟨g3, 0, none⟩)), (10, x.v), (48, .int .i64 x.n), (49, .int .i64 j)] ∧ Sat w0 w [.blk g1 [vL, vD, .int .i64 p.stock, .int .i64 p.kerf], .blk g2 [vdmd1], .own vdmd1 1 3 ndmd1 (ints fm2), .blk g3 [s.vO], .own s.vO 2 50 s.n (ucells s.vv s.C), .sem (Frame.rows 3 s.n s.vv (fun _ => p.m) s.P), .blk g4 [vnn1], .own vnn1 2 50 nnn1 (ucells pnn1 cnn1), .sem (Frame.rows 3 nnn1 pnn1 lnn1 gnn1), .sem rest1, .own x.v 1 3 x.n (ints fa)]) ⟨x.f, s.M, 0, rfl, (by omega), (by omega), ?_, ?_, rfl, hS⟩ ?_
   ·
    intro k k0 k1; rw [if_neg (by omega)]
   ·
    intro k k0 k1; rw [if_neg (by omega)]
   clear hS w
   rintro mm M w ⟨fa, fm2, j, rfl, j0, j1, hfa, hfm2, rfl, hS⟩
   refine hsq <| hrz ?_
   refine zlv xlss ?_
   refine zln <| zh <| htn <| hsq ?_
   refine hcif ?_ ?_ <;> intro hc
   ·
    refine hsk <| htn <| hsq <| hbk <| hsq <| hrz ?_
    refine zlv xmv ?_
    have hxj := hfr j j0 (by omega)
    have hMj := hMr j j0 (by omega)
    have hfaj := hfa j j0 (by omega)
    have hfmj := hfm2 j j0 (by omega)
    rw [if_neg (by omega)] at hfaj hfmj
    refine zlv xas ?_
    refine zln <| zh <| htn <| hsq ?_
    refine hdst [0, 1, 2, 3, 4, 5, 6, 7, 8, 9, 10] [0, 1, 2, 3, 4, 5, 6, 7, 8, 9, 10] 1000 mx_ hS ?_; clear hS; intro w hS
    refine zdv 0 (fun _ => xmv) ?_
    refine zdv 1 (fun _ => xmv) ?_
    refine zdv 2 (fun _ => (xix (kk := j) sl_22 hxv)) ?_
    refine zdla 3 (fun w hS => (xlr (u := .int .i64 (fa j)) pl_3 (hS.rowN 10 rfl))) ?_
    refine zdla 4 (fun w hS => (xlb 1 pl_22 hS)) ?_
    refine zdv 5 (fun _ => xmv) ?_
    refine zdv 6 (fun _ => (xix (kk := j) sl_22 hvdmd1)) ?_
    refine zdla 7 (fun w hS => (xlr (u := .int .i64 (fm2 j)) pl_3 (hS.rowN 2 rfl))) ?_
    refine zdv 8 (fun _ => (xmin (r := (min (fa j) (fm2 j))))) ?_
    refine zdv 9 (fun _ => xas) ?_
    refine zdd <| zh <| htn <| hsq <| hrz ?_
    refine zs2 ?_
    refine zlv (xix (kk := j) sl_22 hxv) ?_
    refine zlv (xlr (u := .int .i64 (fa j)) pl_3 (hS.rowN 10 rfl)) ?_
    refine zlv xmv ?_
    refine zlv (xsub (r := fa j - (min (fa j) (fm2 j)))) ?_
    refine zlv (xix (kk := j) sl_22 hxv) ?_
    refine zle (xso 10 pl_3 hS (upd_ints _ _ _)) ?_; clear hS; rintro w hS
    replace hS := hS.n11
    refine zln <| zh <| htn <| hrz ?_
    refine zlv (xlb 1 pl_22 hS) ?_
    refine zlv xmv ?_
    refine zlv (xix (kk := j) sl_22 hvdmd1) ?_
    refine zlv (xlr (u := .int .i64 (fm2 j)) pl_3 (hS.rowN 2 rfl)) ?_
    refine zlv xmv ?_
    refine zlv (xsub (r := fm2 j - (min (fa j) (fm2 j)))) ?_
    refine zlv (xix (kk := j) sl_22 hvdmd1) ?_
    refine zle (xso 2 pl_3 hS (upd_ints _ _ _)) ?_; clear hS; rintro w hS
    replace hS := hS.n11
    refine zln <| zh <| zbn <| htn <| hrz ?_
    refine zlv (xadd (r := j + 1)) ?_
    refine zlv xmv ?_
    refine zln <| zh <| hlq ⟨(upd fa j (fa j - (min (fa j) (fm2 j)))), (upd fm2 j (fm2 j - (min (fa j) (fm2 j)))), j + 1, rfl, (by omega), (by omega), ?_, ?_, rfl, hS⟩
    ·
     intro k k0 k1; unfold upd; by_cases e : k = j
     · rw [if_pos e, if_pos (by omega), e]; omega
     · rw [if_neg e, hfa k k0 k1]; by_cases e2 : k < j
       · rw [if_pos e2, if_pos (by omega)]
       · rw [if_neg e2, if_neg (by omega)]
    ·
     intro k k0 k1; unfold upd; by_cases e : k = j
     · rw [if_pos e, if_pos (by omega), e]; omega
     · rw [if_neg e, hfm2 k k0 k1]; by_cases e2 : k < j
       · rw [if_pos e2, if_pos (by omega)]
       · rw [if_neg e2, if_neg (by omega)]
   refine hxt <| ztx <| ztx <| zbh <| htn <| hsq <| hrz ?_
   refine zlv xmv ?_
   refine zlc (xc0 cl_75) (c_copos (n := x.n) (f := fa) w (hS.rowN 10 rfl)) ?_; rintro _ w ⟨rfl, hS'⟩
   replace hS := hS.cmp hS'; clear hS'
   refine zln <| zh <| htn ?_
   refine hcif ?_ ?_ <;> intro hc
   ·
    refine hrz ?_
    refine zlv (xlb 3 pl_43 hS) ?_
    refine zlv xmv ?_
    refine zlv (xany (v := .agg #[x.v, .int .i64 1]) (hr := by have hz := hxv; revert hz; generalize x.v = z; rintro ⟨_, _, _, _, rfl, _⟩; show _ = _; kernel_rfl)) ?_
    refine zla (xli (n := 1) (len := 1) (pv := [(0, .agg #[x.v, .int .i64 1])]) (cs := [x.v, .int .i64 1]) (c := ucells (fun _ => x.v) (fun _ => 1)) sl_43 el_50 hS (hf := by have hz := hxv; revert hz; generalize x.v = z; rintro ⟨_, _, _, _, rfl, _⟩; show _ = _; kernel_rfl)) ?_; rintro v1 w ⟨hS, hv1⟩
    replace hS := hS.n12
    refine zla (xap 4 (r := s.n + 1) sl_43 el_50 hS (hS.rowN 11 rfl) (cat_ucells _ _ _ _ _) (h1 := fun k _ _ => ucells_one (fun _ => hxv.one) k)) ?_; rintro v2 w ⟨hS, hv2⟩
    replace hS := hS.n12
    replace hS := Sat.merge (l1 := [_, _, _, _, _]) (l2 := [_, _, _, _]) (l3 := [_]) hS (by omega)
    have hrs1 := fun k (k0 : 0 ≤ k) (k1 : k < s.n + 1) => hS.slhIn 5 rfl k0 k1
    replace hS := hS.n11
    refine zle (xsb 3 pl_43 hS (hv := hv2.one)) ?_; clear hS; rintro w hS
    replace hS := hS.n11
    refine zln <| zh <| zbn ?_
    rw [hfn, gsn_const] at hS
    refine hrdN ⟨s.h ++ [lst x.n x.f], fm2, v2, s.n + 1, gsn s.vv s.n x.v, gsn s.P s.n fa, (snoc s.C s.n 1)⟩ ⟨rfl, (by rw [hfn]; exact TInv.yes (a2 := fa) hIp hsn (fun k k0 k1 => (hfa k k0 k1).trans (if_pos (by omega))) (fun k k0 k1 => (hfm2 k k0 k1).trans (if_pos (by omega))) (by obtain ⟨k, k0, k1, k2⟩ := hc; exact ⟨k, k0, by omega, k2⟩) (fun k k0 k1 => gsn_lt k1) (gsn_at (by omega)) (fun k k0 k1 => snoc_lt k1) (snoc_at (by omega))), hv2, (fun k k0 k1 => by have h9 := hMr k k0 k1; have h8 := hfr k k0 k1; have h7 := hfm2 k k0 k1; rw [if_pos (by omega)] at h7; show 0 ≤ fm2 k ∧ fm2 k ≤ _; omega), by (show s.n + 1 ≤ ((s.h ++ [lst x.n x.f]).length : Int)); rw [List.length_append]; simp; omega, (snoc_ones hC1)⟩ (hS.pk [0, 1, 2, 3, 4, 5, 6, 7, 8, 9])
   refine hsk <| zbn <| hrdN ⟨s.h ++ [lst x.n x.f], fm2, s.vO, s.n, s.vv, s.P, s.C⟩ ⟨rfl, (by rw [hfn]; exact TInv.no (a2 := fa) hIp (fun k k0 k1 => (hfa k k0 k1).trans (if_pos (by omega))) (fun k k0 k1 => (hfm2 k k0 k1).trans (if_pos (by omega))) (fun ⟨k, k0, k1, k2⟩ => hc ⟨k, k0, by omega, k2⟩)), hlO, (fun k k0 k1 => by have h9 := hMr k k0 k1; have h8 := hfr k k0 k1; have h7 := hfm2 k k0 k1; rw [if_pos (by omega)] at h7; show 0 ≤ fm2 k ∧ fm2 k ≤ _; omega), by (show s.n ≤ ((s.h ++ [lst x.n x.f]).length : Int)); rw [List.length_append]; simp; omega, hC1⟩ (hS.pk [0, 1, 2, 3, 4, 5, 6, 7, 8, 9])
  ·
   intro Dk s rest w hfin hS
   replace hS := hS.n11
   obtain ⟨⟨hIp, hlO, hMr, hnh, hC1⟩, hh⟩ := hfin
   have hrO := fun k (k0 : 0 ≤ k) (k1 : k < s.n) => hS.slhIn 5 rfl k0 k1
   have hsn := hlO.n0
   have hlen9 : s.n ≤ 1000000 := by
     have h9 := brs_len (ln := lnn1) (pt := gnn1) (u := nnn1) (cnt := cnn1) hn0n1 (fun k k0 k1 => by have := hncn1 k k0 k1; omega) (nnn1 - 1 - (-1)).toNat (by omega)
     rw [hh] at hnh
     unfold dwn at hnh
     rw [show (nnn1 - (nnn1 - 1 - (-1)).toNat).toNat = 0 by omega] at h9
     simp only [psum] at h9
     omega
   refine zbn <| htn <| hsq <| hrz ?_
   refine zlv (xlb 3 pl_43 hS) ?_
   refine zlc (xc0 cl_80) (c_norm (u := s.n) (pv := s.vv) (ln := (fun _ => p.m)) (pt := s.P) (cnt := s.C) w (⟨(hS.rowN 4 rfl), fun k k0 k1 => hS.rowIn 5 rfl k0 k1, fun k k0 k1 => hS.roomIn 5 rfl k0 k1⟩ : VAt _ s.vO s.n s.vv (fun _ => p.m) s.P s.C) (by omega) (fun k k0 k1 => by omega) (fun k k0 k1 => by have h9 := hC1 k k0 k1; omega)) ?_; rintro vnn2 w ⟨_, nnn2, pnn2, lnn2, gnn2, cnn2, rfl, hnrn2, hn0n2, hn1n2, hncn2, hvnn2, hS'⟩
   replace hS : Sat w0 w [.blk g1 [vL, vD, .int .i64 p.stock, .int .i64 p.kerf], .blk g2 [vdmd1], .own vdmd1 1 3 ndmd1 (ints s.M), .blk g3 [s.vO], .own s.vO 2 50 s.n (ucells s.vv s.C), .sem (Frame.rows 3 s.n s.vv (fun _ => p.m) s.P), .blk g4 [vnn1], .own vnn1 2 50 nnn1 (ucells pnn1 cnn1), .sem (Frame.rows 3 nnn1 pnn1 lnn1 gnn1), .sem rest, .sem (Frame.obj Dk (.deferred (some []))), .own vnn2 2 50 nnn2 (ucells pnn2 cnn2), .sem (Frame.rows 3 nnn2 pnn2 lnn2 gnn2)] := hS.comp hS'; clear hS'
   have hrnn2 := fun k (k0 : 0 ≤ k) (k1 : k < nnn2) => hS.slhIn 12 rfl k0 k1
   refine zs2 ?_
   refine zln <| zh <| htn <| hrt <| hmk1 10 hS fun w hS => zf2 ⟨_, rfl, ?_⟩
   have hmf : lst p.m fM = lst p.m (fun j => madeF u pt cnt j - p.D j) := lst_congr fun k k0 k1 => hfM k k0 k1
   have hTR : NormR (tRun (lst p.m fun j => madeF u pt cnt j - p.D j) (brsU (plL nnn1 lnn1 gnn1 cnn1))).2 (plL nnn2 lnn2 gnn2 cnn2) := by
     rw [← brsOf_plL _ _ _ hn0n1, ← hh, ← hmf, ← hIp]; exact hnrn2
   exact ⟨_, _, _, _, _, _, 0, rfl, .inr (.inr ⟨hplo, hmeet, rfl, _, hnrn1, hTR⟩), fun k k0 k1 => by have := hncn2 k k0 k1; omega, by omega, hvnn2, hS.pk [11, 12]⟩
  ·
   intro Dk t rest w hfin hS
   replace hS := hS.n5
   exact hfin.elim

/-- What is left of a demand. -/
def leftF (p : Prob) (f : Int → Int) : Int → Int := fun k => if 0 ≤ k ∧ k < p.m then max 0 (p.D k - f k) else 0
theorem leftF_bnd {p : Prob} (hp : p.Ok) {f : Int → Int} (hf : ∀ k, 0 ≤ k → k < p.m → 0 ≤ f k) : ∀ k, -9223372036854775808 ≤ leftF p f k ∧ leftF p f k ≤ 9223372036854775807 := fun k => by
  unfold leftF
  by_cases h : 0 ≤ k ∧ k < p.m
  · rw [if_pos h]; have := dnn9 hp h.1 h.2; have := hf k h.1 h.2; omega
  · rw [if_neg h]; omega
structure NUt (w : World) (v : Value) (n : Int) (vv : Int → Value) (ln : Int → Int) (pvs : Int → Int → Value) (cns : Int → Int → Int) : Prop where
  row : Row w v 1 n vv
  p : ∀ i, 0 ≤ i → i < n → Row w (vv i) 2 (ln i) (ucells (pvs i) (cns i))
  one : ∀ i, 0 ≤ i → i < n → ∀ k, 0 ≤ k → k < ln i → (pvs i k).oneCell' = true
theorem ucells_oneR {pv : Int → Value} {cnt : Int → Int} {n : Int} (h : ∀ k, 0 ≤ k → k < n → (pv k).oneCell' = true) : ∀ k, 0 ≤ k → k < n * 2 → (ucells pv cnt k).oneCell' = true := fun k k0 k1 => by
  unfold ucells
  split
  · exact h _ (by omega) (by omega)
  · rfl
theorem NUt.below {w w' : World} {v : Value} {n : Int} {vv : Int → Value} {ln : Int → Int} {pvs : Int → Int → Value} {cns : Int → Int → Int} (h : NUt w v n vv ln pvs cns) (hb : Below w.heap.size w w') : NUt w' v n vv ln pvs cns := ⟨h.row.below hb, fun i a b => (h.p i a b).below hb, h.one⟩
def catG (ln : Int → Int) (f : Int → Int → Value) : Nat → Int → Value
  | 0 => fun _ => undef
  | k + 1 => cat (tot ln k) (catG ln f k) (f k)
theorem catG_next (ln : Int → Int) (f : Int → Int → Value) {i : Int} (h : 0 ≤ i) : catG ln f (i + 1).toNat = cat (tot ln i.toNat) (catG ln f i.toNat) (f i) := by
  rw [show (i + 1).toNat = i.toNat + 1 by omega, catG, Int.toNat_of_nonneg h]
theorem nut2 {w : World} {v a b : Value} {n m : Int} {pa pb : Int → Value} {ca cb : Int → Int} (h : Row w v 1 2 (pair2 a b)) (ha : Row w a 2 n (ucells pa ca)) (hb : Row w b 2 m (ucells pb cb)) (ha1 : ∀ k, 0 ≤ k → k < n → (pa k).oneCell' = true) (hb1 : ∀ k, 0 ≤ k → k < m → (pb k).oneCell' = true) : NUt w v 2 (pair2 a b) (pair2 n m) (pair2 pa pb) (pair2 ca cb) :=
  ⟨h, fun i i0 i1 => by
    by_cases e : i = 0
    · subst e; exact ha
    · obtain rfl : i = 1 := by omega
      exact hb, fun i i0 i1 => by
    by_cases e : i = 0
    · subst e; exact ha1
    · obtain rfl : i = 1 := by omega
      exact hb1⟩

set_option maxHeartbeats 4000000 in
set_option maxRecDepth 20000 in
theorem c_left {vL vD : Value} {p : Prob} {vA : Value} {f : Int → Int} (w0 : World) (h : PAt w0 vL vD p) (hok : p.Ok) (hA : Row w0 vA 1 p.m (ints f)) (hfb : ∀ k, 0 ≤ k → k < p.m → 0 ≤ f k ∧ f k ≤ 2000000000) :
    Calls Try.prog 52 [.agg #[vL, vD, .int .i64 p.stock, .int .i64 p.kerf], vA].toArray w0 fun e w => ∃ v, e = .returned v ∧ ∃ vL2 vD2, v = .agg #[vL2, vD2, .int .i64 p.stock, .int .i64 p.kerf] ∧ Slh vL2 p.m ∧ Slh vD2 p.d ∧ Sat w0 w [.own vL2 1 3 p.m (ints p.L), .own vD2 1 3 p.d (ints (leftF p f))] := by
  have hm := h.L.slh.n0; have hm1 := h.L.slh.n1; have hd := h.D.slh.n0; have hd1 := h.D.slh.n1; have hs := h.is; have hk := h.ik
  have hpm1 := hok.m1; have hpm2 := hok.m2; have hpd := hok.d
  refine zenG Try.func52 Try.ntmps52 fun w hS => ?_
  refine zsr ?_
  refine zla (xbx (cs := [_, _, _, _]) hS) ?_; rintro _ w ⟨g1, rfl, hS⟩
  replace hS := hS.n1
  refine zla (xal (cs := [_, _, _, _]) el_39 hS) ?_; rintro _ w ⟨g2, rfl, hS⟩
  replace hS := hS.n2
  refine zlt <| zsq ?_
  refine zdst [0, 1] [1] 7 mx_ hS ?_; clear hS; intro w hS
  refine zdv 0 (fun _ => (xfb 0 fd_39_0)) ?_
  refine zdl 1 (fun w hS => (xlb 0 pl_22 hS)) ?_
  refine zdv 3 (fun _ => (xfb 1 fd_39_1)) ?_
  refine zdl 4 (fun w hS => (xlb 0 pl_22 hS)) ?_
  refine zdc 2 (xc0 cl_42) (c_clone (n := p.m) (f := p.L) w (h.L.below hS.below) (by omega)) ?_; rintro vq1 w ⟨_, rfl, hslq1, hS'⟩
  replace hS : Sat w0 w [.blk g1 [vL, vD, .int .i64 p.stock, .int .i64 p.kerf], .blk g2 [.slice none 0 0, .slice none 0 0, .int .i64 0, .int .i64 0], .own vq1 1 3 p.m (ints p.L)] := hS.comp hS'; clear hS'
  refine ⟨⟨fun _ => hS.pk [0, 1], hS.pk [1]⟩, ?_⟩
  refine zdv 6 (fun _ => (xfb 0 fd_39_0)) ?_
  refine zdc 5 (xc0 cl_42) (c_clone (n := p.d) (f := p.D) w (h.D.below hS.below) (by omega)) ?_; rintro vq2 w ⟨_, rfl, hslq2, hS'⟩
  replace hS : Sat w0 w [.blk g1 [vL, vD, .int .i64 p.stock, .int .i64 p.kerf], .blk g2 [.slice none 0 0, .slice none 0 0, .int .i64 0, .int .i64 0], .own vq1 1 3 p.m (ints p.L), .own vq2 1 3 p.d (ints p.D)] := hS.comp hS'; clear hS'
  refine ⟨⟨fun _ => hS.pk [0, 1], hS.pk [1]⟩, ?_⟩
  refine zde 7 (xsb 0 pl_22 hS (hv := hslq1.one)) ?_; clear hS; rintro w hS
  replace hS := hS.n4
  refine ⟨⟨fun h => absurd h (by decide), hS.pk [1]⟩, ?_⟩
  refine zdv 8 (fun _ => (xfb 1 fd_39_1)) ?_
  refine zde 9 (xsb 0 pl_22 hS (hv := hslq2.one)) ?_; clear hS; rintro w hS
  replace hS := hS.n4
  refine ⟨⟨fun h => absurd h (by decide), hS.pk [1]⟩, ?_⟩
  refine zdd <| ztn <| zsq <| zsr ?_
  refine zlv xmv ?_
  refine zlv (xln sl_22 hA.slh) ?_
  refine zlv xmv ?_
  refine zlt <| zbk <| zlp (fun mm M w => ∃ (g : Int → Int) (i : Int), mm = ((p.m - i).toNat) ∧ (0 ≤ i) ∧ (i ≤ p.m) ∧ (∀ k, 0 ≤ k → k < p.m → g k = if k < i then max 0 (p.D k - f k) else p.D k) ∧ M = [(2, .pointer (some ⟨g1, 0, none⟩)), (4, .pointer (some ⟨g2, 0, none⟩)), (15, vA), (16, .int .i64 p.m), (17, .int .i64 i)] ∧ Sat w0 w [.blk g1 [vq1, vq2, .int .i64 p.stock, .int .i64 p.kerf], .blk g2 [.slice none 0 0, .slice none 0 0, .int .i64 0, .int .i64 0], .own vq1 1 3 p.m (ints p.L), .own vq2 1 3 p.d (ints g)]) ⟨p.D, 0, rfl, (by omega), (by omega), ?_, rfl, hS⟩ ?_
  ·
   intro k k0 k1; rw [if_neg (by omega)]
  clear hS w
  rintro mm M w ⟨g, i, rfl, h0, h1, hg, rfl, hS⟩
  refine zsr ?_
  refine zlv xlss ?_
  refine zlt <| zsq ?_
  refine zcif ?_ ?_ <;> intro hc
  ·
   refine zsk <| ztn <| zsq <| zbk <| zsr ?_
   refine zlv xmv ?_
   refine zlv (xix (kk := i) sl_22 hA.slh) ?_
   refine zlv (xlr (u := .int .i64 (f i)) pl_3 (hA.below hS.below)) ?_
   have hdi := dnn9 hok h0 (by omega : i < p.m)
   have hfi := hfb i h0 (by omega)
   have hgi := hg i h0 (by omega)
   rw [if_neg (by omega)] at hgi
   refine zs2 ?_
   refine zlt ?_
   refine zdst [0, 1, 2, 3] [0, 1, 2] 12 mx_ hS ?_; clear hS; intro w hS
   refine zdv 0 (fun _ => (xfb 1 fd_39_1)) ?_
   refine zdla 1 (fun w hS => (xlb 0 pl_22 hS)) ?_
   refine zdv 2 (fun _ => xmv) ?_
   refine zdv 3 (fun _ => (xfb 1 fd_39_1)) ?_
   refine zdla 4 (fun w hS => (xlb 0 pl_22 hS)) ?_
   refine zdv 5 (fun _ => xmv) ?_
   refine zdv 6 (fun _ => (xix (kk := i) sl_22 hslq2)) ?_
   refine zdl 7 (fun w hS => (xlr (u := .int .i64 (g i)) pl_3 (hS.rowN 3 rfl))) ?_
   refine zdv 8 (fun _ => xmv) ?_
   refine zdv 9 (fun _ => (xsub (r := g i - (f i)))) ?_
   refine zdv 10 (fun _ => (xmax (r := (max 0 (g i - (f i)))))) ?_
   refine zdv 11 (fun _ => (xix (kk := i) sl_22 hslq2)) ?_
   refine zde 12 (xso 3 pl_3 hS (upd_ints _ _ _)) ?_; clear hS; rintro w hS
   replace hS := hS.n4
   refine ⟨⟨fun h => absurd h (by decide), hS.pk [0, 1, 2]⟩, ?_⟩
   refine zdd <| zbn <| ztn <| zrg ?_
   refine zlv (xadd (r := i + 1)) ?_
   refine zlv xmv ?_
   refine zln <| zlq ⟨(upd g i (max 0 (g i - (f i)))), i + 1, rfl, (by omega), (by omega), ?_, rfl, hS⟩
   ·
    intro k k0 k1; unfold upd; by_cases e : k = i
    · rw [if_pos e, if_pos (by omega), e]; omega
    · rw [if_neg e, hg k k0 k1]; by_cases e2 : k < i
      · rw [if_pos e2, if_pos (by omega)]
      · rw [if_neg e2, if_neg (by omega)]
  refine zxt <| ztx <| ztx <| zbh <| ztn <| zsr ?_
  refine zlv (xls 0 st_39 hS) ?_
  refine zle (xsw 1 st_39 hS (hd := (ones_cons hslq1.one (ones_cons hslq2.one (ones_cons rfl (ones_cons rfl ones_nil)))))) ?_; clear hS; rintro w hS
  replace hS := hS.n4
  refine zlt <| zrt <| zfc 1 st_39 hS ⟨_, rfl, ?_⟩
  have hin : i = p.m := by omega
  replace hS := hS.recont 3 rfl (d := ints (leftF p f)) (fun k k0 k1 => congrArg (Value.int .i64) (by rw [hg k k0 (by omega), if_pos (by omega)]; unfold leftF; rw [if_pos ⟨k0, by omega⟩]))
  exact ⟨_, _, rfl, hslq1, hslq2, hS.pk [2, 3]⟩

set_option maxRecDepth 20000 in
theorem c_growU {n : Int} (w0 : World) (h0 : 0 ≤ n) (h1 : n ≤ 100000000) :
    Calls Try.prog 86 [.slice none 0 0, .int .i64 n].toArray w0 fun e w => ∃ v, e = .returned v ∧ ∃ r, v = r ∧ Slh r 0 ∧ Sat w0 w [.own r 2 50 0 (ucells (fun _ => Value.slice none 0 0) (fun _ => 0))] := by
  refine zenG Try.func86 Try.ntmps86 fun w hS => ?_
  refine zsr ?_
  refine zlv xas ?_
  refine zlt <| zsq <| zsr ?_
  refine zlv xmv ?_
  refine zlv (xkf xlss) ?_
  refine zlt <| zcf <| zsk <| ztn <| zsq <| zsr ?_
  refine zs2 ?_
  refine zlvr rfl rfl rfl (ex_cap_nil rfl sl_43 rfl) ?_
  refine zlv xmv ?_
  refine zlv (xln sl_43 slh_nil) ?_
  refine zlv (xsub (r := 0)) ?_
  refine zlv (xsub (r := n)) ?_
  refine zlv xas ?_
  refine zlz ?_
  refine zs2 ?_
  refine zlt ?_
  refine zcif ?_ ?_ <;> intro hc
  ·
   refine zrg ?_
   refine zs2 ?_
   refine zlvr rfl rfl rfl (ex_cap_nil rfl sl_43 rfl) ?_
   refine zlv (xany (v := .slice none 0 0)) ?_
   refine zlv xmv ?_
   refine zlar rfl rfl rfl (ex_append_make2 rfl sl_43 Try.underlying3 el_50 rfl (by omega) rfl rfl (by omega) (by omega) hS) ?_; rintro v1 w ⟨hS, hv1⟩
   replace hS := hS.n1
   refine zlv xmv ?_
   refine zlv (xln sl_43 slh_nil) ?_
   refine zlvr rfl rfl rfl (ex_slice_cut rfl sl_43 rfl rfl hv1) ?_
   replace hS := hS.cut 0 rfl (ucells (fun _ => Value.slice none 0 0) (fun _ => 0))
   replace hS := hS.n1
   refine zlv xas ?_
   refine zlz ?_
   refine zs2 ?_
   refine zlt <| zrt <| zf1 ⟨_, rfl, ?_⟩
   exact ⟨_, rfl, (cut_slh hv1), hS⟩
  refine zsk <| ztn <| zsr ?_
  refine zs2 ?_
  refine zlt <| zrt <| zf1 ⟨_, rfl, ?_⟩
  exact ⟨_, rfl, slh_nil, (hS.sub .slnil).addnil 2 50 (ucells (fun _ => Value.slice none 0 0) (fun _ => 0))⟩

set_option maxRecDepth 20000 in
theorem c_concatU {v : Value} {n : Int} {vv : Int → Value} {ln : Int → Int} {pvs : Int → Int → Value} {cns : Int → Int → Int} (w0 : World) (hM : NUt w0 v n vv ln pvs cns) (ht : ∀ k, 0 ≤ k → k ≤ n → tot ln k.toNat ≤ 10000000) :
    Calls Try.prog 51 [v].toArray w0 fun e w => ∃ v, e = .returned v ∧ ∃ r, v = r ∧ Slh r (tot ln n.toNat) ∧ Sat w0 w [.own r 2 50 (tot ln n.toNat) (ucells (catG ln pvs n.toNat) (catN ln cns n.toNat))] := by
  have hn := hM.row.slh.n0; have hn1 := hM.row.slh.n1
  refine zenG Try.func51 Try.ntmps51 fun w hS => ?_
  refine zsr ?_
  refine zlv xas ?_
  refine zlz ?_
  refine zlv xas ?_
  refine zlt <| zsq <| zsr ?_
  refine zlv xmv ?_
  refine zlv (xln sl_129 hM.row.slh) ?_
  refine zlv xmv ?_
  refine zlt <| zbk <| zlp (fun mm M w => ∃ (s : Int) (i : Int), mm = ((n - i).toNat) ∧ (0 ≤ i) ∧ (i ≤ n) ∧ (s = tot ln i.toNat) ∧ (0 ≤ s) ∧ M = [(0, v), (2, .slice none 0 0), (3, .int .i64 s), (9, v), (10, .int .i64 n), (11, .int .i64 i)] ∧ Sat w0 w []) ⟨0, 0, rfl, (by omega), (by omega), ?_, (by omega), rfl, hS⟩ ?_
  ·
   rfl
  clear hS w
  rintro mm M w ⟨s, i, rfl, h0, h1, hs, hs0, rfl, hS⟩
  refine zsr ?_
  refine zlv xlss ?_
  refine zlt <| zsq ?_
  refine zcif ?_ ?_ <;> intro hc
  ·
   refine zsk <| ztn <| zsq <| zbk <| zsr ?_
   refine zlv (xix (kk := i) sl_129 hM.row.slh) ?_
   refine zlv (xlr (u := (vv i)) pl_43 (hM.row.below hS.below)) ?_
   have hl := (hM.p i h0 (by omega)).slh.n0; have ht1 := ht (i + 1) (by omega) (by omega); rw [tot_next ln h0] at ht1
   refine zlv xas ?_
   refine zlz ?_
   refine zs2 ?_
   refine zlv (xln sl_43 (hM.p i (by omega) (by omega)).slh) ?_
   refine zlv (xadd (r := s + (ln i))) ?_
   refine zlv xas ?_
   refine zlz ?_
   refine zlv xmv ?_
   refine zlv (xkf xlss) ?_
   refine zlt <| zcf <| zsk <| zbn <| ztn <| zrg ?_
   refine zlv (xadd (r := i + 1)) ?_
   refine zlv xmv ?_
   refine zln <| zlq ⟨s + (ln i), i + 1, rfl, (by omega), (by omega), ?_, (by omega), rfl, hS⟩
   ·
    rw [tot_next ln h0, hs]
  refine zxt <| ztx <| ztx <| zbh <| ztn <| zsr ?_
  refine zlv xmv ?_
  have hin : i = n := by omega
  have ht2 := ht n hn (Int.le_refl _); rw [← hin] at ht2
  refine zlc (xc0 cl_86) (c_growU (n := s) w (by omega) (by omega)) ?_; rintro vq1 w ⟨_, rfl, hslq1, hS'⟩
  replace hS : Sat w0 w [.own vq1 2 50 0 (ucells (fun _ => Value.slice none 0 0) (fun _ => 0))] := hS.comp hS'; clear hS'
  refine zlv xas ?_
  refine zlt <| zsq <| zsr ?_
  refine zlv xmv ?_
  refine zlv (xln sl_129 hM.row.slh) ?_
  refine zlv xmv ?_
  refine zlt <| zbk <| zlp (fun mm M w => ∃ (m : Int) (gq : Int → Value) (gc : Int → Int) (j : Int) (vb : Value), mm = ((n - j).toNat) ∧ (0 ≤ j) ∧ (j ≤ n) ∧ (m = tot ln j.toNat) ∧ (0 ≤ m) ∧ (∀ k, 0 ≤ k → k < m → gq k = catG ln pvs j.toNat k) ∧ (∀ k, 0 ≤ k → k < m → gc k = catN ln cns j.toNat k) ∧ (Slh vb m) ∧ M = [(2, .slice none 0 0), (6, vb), (25, v), (26, .int .i64 n), (27, .int .i64 j)] ∧ Sat w0 w [.own vb 2 50 m (ucells gq gc)]) ⟨0, (fun _ => Value.slice none 0 0), (fun _ => 0), 0, vq1, rfl, (by omega), (by omega), ?_, (by omega), ?_, ?_, ?_, rfl, hS⟩ ?_
  ·
   rfl
  ·
   intro k k0 k1; omega
  ·
   intro k k0 k1; omega
  ·
   exact hslq1
  clear hS w
  rintro mm M w ⟨m, gq, gc, j, vb, rfl, h0, h1, hm, hm0, hg, hc9, hvb, rfl, hS⟩
  refine zsr ?_
  refine zlv xlss ?_
  refine zlt <| zsq ?_
  refine zcif ?_ ?_ <;> intro hc
  ·
   refine zsk <| ztn <| zsq <| zbk <| zsr ?_
   refine zlv (xix (kk := j) sl_129 hM.row.slh) ?_
   refine zlv (xlr (u := (vv j)) pl_43 (hM.row.below hS.below)) ?_
   have hl := (hM.p j h0 (by omega)).slh.n0; have ht1 := ht (j + 1) (by omega) (by omega); rw [tot_next ln h0] at ht1
   refine zlv xas ?_
   refine zlt <| zrg ?_
   refine zs2 ?_
   refine zla (xap 0 (r := m + (ln j)) (f := ucells (cat m gq (pvs j)) (cat m gc (cns j))) sl_43 el_50 hS ((hM.p j (by omega) (by omega)).below hS.below) (by exact cat_ucells2 _ _ _ _ _) (h1 := (ucells_oneR (hM.one j (by omega) (by omega))))) ?_; rintro v1 w ⟨hS, hv1⟩
   replace hS := hS.n1
   refine zlv xas ?_
   refine zln <| zbn <| ztn <| zrg ?_
   refine zlv (xadd (r := j + 1)) ?_
   refine zlv xmv ?_
   refine zln <| zlq ⟨m + (ln j), (cat m gq (pvs j)), (cat m gc (cns j)), j + 1, v1, rfl, (by omega), (by omega), ?_, (by omega), ?_, ?_, ?_, rfl, hS⟩
   ·
    rw [tot_next ln h0, hm]
   ·
    intro k k0 k1; rw [catG_next ln pvs h0, ← hm]; unfold cat; by_cases e : k < m
    · rw [if_pos e, if_pos e]; exact hg k k0 e
    · rw [if_neg e, if_neg e]
   ·
    intro k k0 k1; rw [catN_next ln cns h0, ← hm]; unfold cat; by_cases e : k < m
    · rw [if_pos e, if_pos e]; exact hc9 k k0 e
    · rw [if_neg e, if_neg e]
   ·
    exact hv1
  refine zxt <| ztx <| ztx <| zbh <| ztn <| zsr ?_
  refine zs2 ?_
  refine zlt <| zrt <| zf1 ⟨_, rfl, ?_⟩
  obtain rfl : j = n := by omega
  subst hm
  replace hS := hS.recont 0 rfl (d := ucells (catG ln pvs j.toNat) (catN ln cns j.toNat)) (fun k k0 k1 => by unfold ucells; rw [hg _ (by omega) (by omega), hc9 _ (by omega) (by omega)])
  exact ⟨_, rfl, hvb, hS⟩

end Go.Proofs.Ytopmifmfecfaaaa
