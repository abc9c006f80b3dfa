/- The walks of Fraction. -/
import Derived.Test.YtelfplepnodbgaaGv
import Derived.Test.YtelfplepnodbgaaN1
namespace Go.Proofs.Ytelfplepnodbgaa
open Go Go.RowKit Go.Proofs.Gw
set_option linter.unusedVariables false

theorem cl_94 : calledT Try.prog 94 = true := by kernel_rfl
def FracR (s : So) (k : Int) (ok : Prop) : Prop := (¬ SoundS s ∧ k = 0 ∧ ¬ ok) ∨ (SoundS s ∧ (∀ j, 0 ≤ j → j < s.n → (s.X j).tmod s.den = 0) ∧ k = 0 ∧ ¬ ok) ∨ (SoundS s ∧ 0 ≤ k ∧ k < s.n ∧ (s.X k).tmod s.den ≠ 0 ∧ (∀ j, 0 ≤ j → j < k → (s.X j).tmod s.den = 0) ∧ ok)
theorem FracR.same {s : So} {k k2 : Int} {ok ok2 : Prop} (h : FracR s k ok) (h' : FracR s k2 ok2) : k = k2 ∧ (ok ↔ ok2) := by
  rcases h with ⟨h1, h2, h3⟩ | ⟨h1, h2, h3, h4⟩ | ⟨h1, h2, h3, h4, h5, h6⟩ <;> rcases h' with ⟨g1, g2, g3⟩ | ⟨g1, g2, g3, g4⟩ | ⟨g1, g2, g3, g4, g5, g6⟩ <;>
    first
    | exact absurd ‹SoundS s› ‹¬ SoundS s›
    | exact ⟨by omega, fun h => absurd h ‹¬ ok›, fun h => absurd h ‹¬ ok2›⟩
    | exact absurd (g2 k (by omega) (by omega)) (by assumption)
    | exact absurd (h2 k2 (by omega) (by omega)) (by assumption)
    | (refine ⟨?_, fun _ => g6, fun _ => h6⟩
       rcases Int.lt_trichotomy k k2 with h | h | h
       · exact absurd (g5 k (by omega) h) h4
       · exact h
       · exact absurd (h5 k2 (by omega) h) g4)

set_option maxRecDepth 20000 in
theorem c_fr1 {x : Int} {vX vY : Value} {s : So} {gs : Nat} (w0 : World) (hG : (Ent.blk gs [vX, vY, .int .i64 s.val, .int .i64 s.den]).holds w0) (hX : Row w0 vX 1 s.n (ints s.X)) (hY : Row w0 vY 1 s.m (ints s.Y)) (hden : 1 ≤ s.den) :
    Calls Try.prog 94 [.int .i64 x, .pointer (some ⟨gs, 0, none⟩)].toArray w0 fun e w => ∃ v, e = .returned v ∧ v = B (x.tmod s.den ≠ 0) ∧ Sat w0 w [] := by
  refine zenG Try.func94 Try.ntmps94 fun w hS => ?_
  refine zsr ?_
  refine zlv xas ?_
  refine zlz ?_
  refine zlv xmv ?_
  refine zlv (xfb 3 fd_60_3) ?_
  refine zlv (xlf pl_3 (Ent.holds.cell hG (o := 3) rfl) hS) ?_
  refine zlv (xrem (r := (Int.tmod x s.den))) ?_
  refine zs2 ?_
  refine zlt <| zrt <| zf1 ⟨_, rfl, ?_⟩
  exact ⟨rfl, hS⟩

set_option maxRecDepth 20000 in
theorem c_ixfr {v : Value} {n : Int} {f : Int → Int} {vX vY : Value} {s : So} {gs : Nat} (w0 : World) (hR : Row w0 v 1 n (ints f)) (hG : (Ent.blk gs [vX, vY, .int .i64 s.val, .int .i64 s.den]).holds w0) (hX : Row w0 vX 1 s.n (ints s.X)) (hY : Row w0 vY 1 s.m (ints s.Y)) (hden : 1 ≤ s.den) :
    Calls Try.prog 93 [v, .func (.func 94) #[] #[.pointer (some ⟨gs, 0, none⟩)]].toArray w0 fun e w => ∃ v, e = .returned v ∧ ∃ r : Int, v = .int .i64 r ∧ ((r = -1 ∧ ∀ k, 0 ≤ k → k < n → ¬ ((f k).tmod s.den ≠ 0)) ∨ (0 ≤ r ∧ r < n ∧ ((f r).tmod s.den ≠ 0) ∧ ∀ k, 0 ≤ k → k < r → ¬ ((f k).tmod s.den ≠ 0))) ∧ Sat w0 w [] := by
  have hn := hR.slh.n0; have hn1 := hR.slh.n1
  refine zenG Try.func93 Try.ntmps93 fun w hS => ?_
  refine zsr ?_
  refine zlv xas ?_
  refine zlt <| zsq <| zsr ?_
  refine zlv xmv ?_
  refine zlv (xln sl_22 hR.slh) ?_
  refine zlv xmv ?_
  refine zlt <| zbk <| zlp (fun mm M w => ∃ (i : Int), mm = ((n - i).toNat) ∧ (0 ≤ i) ∧ (i ≤ n) ∧ (∀ k, 0 ≤ k → k < i → ¬ ((f k).tmod s.den ≠ 0)) ∧ M = [(0, v), (1, .func (.func 94) #[] #[.pointer (some ⟨gs, 0, none⟩)]), (7, .int .i64 n), (8, .int .i64 i)] ∧ Sat w0 w []) ⟨0, rfl, (by omega), (by omega), ?_, rfl, hS⟩ ?_
  ·
   intro k h0 h1; omega
  clear hS w
  rintro mm M w ⟨i, rfl, h0, h1, hall, rfl, hS⟩
  refine zsr ?_
  refine zlv xlss ?_
  refine zlt <| zsq ?_
  refine zcif ?_ ?_ <;> intro hc
  ·
   refine zsk <| ztn <| zsq <| zbk <| zsr ?_
   refine zs2 ?_
   refine zlz ?_
   refine zs3 ?_
   refine zlv (xix (kk := i) sl_22 hR.slh) ?_
   refine zlv (xlr (u := .int .i64 (f i)) pl_3 (hR.below hS.below)) ?_
   refine zlc (xcc (vs := [_]) cl_94) (c_fr1 (x := (f i)) (s := s) w (Sat.oldblk hS hG) (hX.below hS.below) (hY.below hS.below) (by omega)) ?_; rintro _ w ⟨rfl, hS'⟩
   replace hS := hS.cmp hS'; clear hS'
   refine zlt ?_
   refine zcif ?_ ?_ <;> intro hc
   ·
    refine zsr ?_
    refine zs2 ?_
    refine zlt <| zrt <| zbr <| ztr <| ztr <| zbr <| ztr <| zf1 ⟨_, rfl, ?_⟩
    exact ⟨i, rfl, .inr ⟨by omega, by omega, ‹(f i).tmod s.den ≠ 0›, hall⟩, hS⟩
   refine zsk <| zbn <| ztn <| zrg ?_
   refine zlv (xadd (r := i + 1)) ?_
   refine zlv xmv ?_
   refine zln <| zlq ⟨i + 1, rfl, (by omega), (by omega), ?_, rfl, hS⟩
   ·
    intro k h0' h1'; rcases Int.lt_or_eq_of_le (show k ≤ i by omega) with hk | hk; exact hall k h0' hk; rw [hk]; assumption
  refine zxt <| ztx <| ztx <| zbh <| ztn <| zsr ?_
  refine zlv xas ?_
  refine zlt <| zrt <| zf1 ⟨_, rfl, ?_⟩
  exact ⟨-1, rfl, .inl ⟨rfl, fun k h0 h1 => hall k h0 (by omega)⟩, hS⟩

theorem fracR_ix {s : So} {r : Int} (h : SoundS s) (hr : (r = -1 ∧ ∀ k, 0 ≤ k → k < s.n → ¬ ((s.X k).tmod s.den ≠ 0)) ∨ (0 ≤ r ∧ r < s.n ∧ (s.X r).tmod s.den ≠ 0 ∧ ∀ k, 0 ≤ k → k < r → ¬ ((s.X k).tmod s.den ≠ 0))) : FracR s (max r 0) (0 ≤ r) := by
  rcases hr with ⟨h1, h2⟩ | ⟨h1, h2, h3, h4⟩
  · exact .inr (.inl ⟨h, fun j j0 j1 => Classical.not_not.1 (h2 j j0 j1), by omega, by omega⟩)
  · rw [show max r 0 = r by omega]
    exact .inr (.inr ⟨h, h1, h2, h3, fun j j0 j1 => Classical.not_not.1 (h4 j j0 j1), h1⟩)

set_option maxRecDepth 20000 in
theorem c_frac30 {vX vY : Value} {s : So} (w0 : World) (hX : Row w0 vX 1 s.n (ints s.X)) (hY : Row w0 vY 1 s.m (ints s.Y)) (hn60 : s.n ≤ 1000) :
    Calls Try.prog 53 [.agg #[vX, vY, .int .i64 s.val, .int .i64 s.den]].toArray w0 fun e w => ∃ v, e = .returned v ∧ ∃ (k : Int) (ok : Prop), v = .tuple #[.int .i64 k, B ok] ∧ FracR s k ok ∧ Sat w0 w [] := by
  have hn := hX.slh.n0; have hn1 := hX.slh.n1
  refine zenG Try.func53 Try.ntmps53 fun w hS => ?_
  refine zsr ?_
  refine zla (xbx (cs := [_, _, _, _]) hS) ?_; rintro _ w ⟨g1, rfl, hS⟩
  replace hS := hS.n1
  refine zs2 ?_
  refine zlt <| zsq <| zsr ?_
  refine zlv (xls 0 st_60 hS) ?_
  refine zlc (xc0 cl_88) (c_sound30 (s := s) w (hX.below hS.below) (hY.below hS.below) (by omega)) ?_; rintro _ w ⟨rfl, hS'⟩
  replace hS := hS.cmp hS'; clear hS'
  refine zlv xnot ?_
  refine zlt ?_
  refine zcif ?_ ?_ <;> intro hc
  ·
   refine zsr ?_
   refine zs2 ?_
   refine zlt <| zrt <| ztr <| zf2 ⟨_, rfl, ?_⟩
   exact ⟨0, False, by rw [B_false not_false], by first | exact .inl ⟨‹¬ SoundS s›, rfl, not_false⟩ | exact .inr (.inl ⟨by assumption, fun j j0 j1 => hall j j0 (by omega), rfl, not_false⟩) | (refine .inl ⟨?_, rfl, not_false⟩; assumption), hS.nl⟩
  refine zsk <| ztn <| zsr ?_
  refine zlv (xfb 0 fd_60_0) ?_
  have hsd : SoundS s := by first | assumption | exact Classical.not_not.1 ‹_›
  obtain ⟨⟨d1, d2⟩, ⟨d3, d4⟩, d5⟩ := id hsd
  refine zlv (xlb 0 pl_22 hS) ?_
  refine zlv xmf ?_
  refine zlc (xc0 cl_93) (c_ixfr (n := s.n) (f := s.X) (s := s) w (hX.below hS.below) (hS.holds _ (List.mem_of_getElem? (i := 0) rfl)) (hX.below hS.below) (hY.below hS.below) (by omega)) ?_; rintro _ w ⟨r1, rfl, hr1, hS'⟩
  replace hS := hS.cmp hS'; clear hS'
  refine zlv xas ?_
  refine zlz ?_
  refine zlv xmv ?_
  refine zlv (xmax (r := (max r1 0))) ?_
  refine zs4 ?_
  refine zlt <| zrt <| zf2 ⟨_, rfl, ?_⟩
  exact ⟨_, _, rfl, fracR_ix hsd hr1, hS.nl⟩

set_option maxRecDepth 20000 in
theorem c_rfrac30 {vX vY : Value} {s : So} (w0 : World) (hX : Row w0 vX 1 s.n (ints s.X)) (hY : Row w0 vY 1 s.m (ints s.Y)) :
    Calls Try.prog 54 [.agg #[vX, vY, .int .i64 s.val, .int .i64 s.den]].toArray w0 fun e w => ∃ v, e = .returned v ∧ ∃ (k : Int) (ok : Prop), v = .tuple #[.int .i64 k, B ok] ∧ FracR s k ok ∧ Sat w0 w [] := by
  have hn := hX.slh.n0; have hn1 := hX.slh.n1
  refine zenG Try.func54 Try.ntmps54 fun w hS => ?_
  refine zsr ?_
  refine zla (xbx (cs := [_, _, _, _]) hS) ?_; rintro _ w ⟨g1, rfl, hS⟩
  replace hS := hS.n1
  refine zs2 ?_
  refine zlt <| zsq <| zsr ?_
  refine zlv xas ?_
  refine zlt <| zbk <| zlp (fun mm M w => ∃ (i : Int), mm = ((s.n - i).toNat) ∧ (0 ≤ i) ∧ (i ≤ s.n ∨ i = 0) ∧ (∀ j, 0 ≤ j → j < i → (s.X j).tmod s.den = 0) ∧ M = [(1, .pointer (some ⟨g1, 0, none⟩)), (4, .int .i64 i)] ∧ Sat w0 w [.blk g1 [vX, vY, .int .i64 s.val, .int .i64 s.den]]) ⟨0, rfl, (by omega), (by omega), ?_, rfl, hS⟩ ?_
  ·
   intro k k0 k1; omega
  clear hS w
  rintro mm M w ⟨i, rfl, h0, h1, hall, rfl, hS⟩
  refine zsq <| zsr ?_
  refine zlv (xls 0 st_72 hS) ?_
  refine zlc (xc0 cl_92) (c_rsound30 (s := s) w (hX.below hS.below) (hY.below hS.below)) ?_; rintro _ w ⟨rfl, hS'⟩
  replace hS := hS.cmp hS'; clear hS'
  refine zlv xmv ?_
  refine zlb 7 ?_ ?_ <;> intro hc
  ·
   refine zlv xmv ?_
   refine zlv (xfb 0 fd_72_0) ?_
   refine zlv (xlb 0 pl_22 hS) ?_
   refine zlv (xln sl_22 hX.slh) ?_
   refine zs2 ?_
   refine zlt ?_
   refine zcif ?_ ?_ <;> intro hc
   ·
    refine zsk <| ztn <| zsq <| zbk <| zsq ?_
    refine zdst [0] [0] 1000 mx_ hS ?_; clear hS; intro w hS
    refine zdv 0 (fun _ => (xfb 0 fd_72_0)) ?_
    have hsd : SoundS s := by first | assumption | exact Classical.not_not.1 ‹_›
    obtain ⟨⟨d1, d2⟩, ⟨d3, d4⟩, d5⟩ := id hsd
    refine zdla 1 (fun w hS => (xlb 0 pl_22 hS)) ?_
    refine zdv 2 (fun _ => xmv) ?_
    refine zdv 3 (fun _ => (xix (kk := i) sl_22 hX.slh)) ?_
    refine zdla 4 (fun w hS => (xlr (u := .int .i64 (s.X i)) pl_3 (hX.below hS.below))) ?_
    refine zdv 5 (fun _ => (xfb 3 fd_72_3)) ?_
    refine zdla 6 (fun w hS => (xlb 0 pl_3 hS)) ?_
    refine zdv 7 (fun _ => (xrem (r := (Int.tmod (s.X i) s.den)))) ?_
    refine zdv 8 (fun _ => xneq) ?_
    refine zdd <| ztn ?_
    refine zcif ?_ ?_ <;> intro hc
    ·
     refine zsr ?_
     refine zs3 ?_
     refine zlt <| zrt <| zbr <| ztr <| ztr <| zbr <| ztr <| zf2 ⟨_, rfl, ?_⟩
     exact ⟨i, True, by rw [B_true trivial], .inr (.inr ⟨hsd, h0, by omega, ‹_›, hall, trivial⟩), hS.nl⟩
    refine zsk <| zbn <| ztn <| zrg ?_
    refine zlv xmv ?_
    refine zlv (xadd (r := i + 1)) ?_
    refine zlv xas ?_
    refine zln <| zlq ⟨i + 1, rfl, (by omega), (by omega), ?_, rfl, hS⟩
    ·
     intro k h0' h1'; rcases Int.lt_or_eq_of_le (show k ≤ i by omega) with hk | hk
     · exact hall k h0' hk
     · rw [hk]; omega
   refine zxt <| ztx <| ztx <| zbh <| ztn <| zsr ?_
   refine zs2 ?_
   refine zlt <| zrt <| zf2 ⟨_, rfl, ?_⟩
   exact ⟨0, False, by rw [B_false not_false], by first | exact .inl ⟨‹¬ SoundS s›, rfl, not_false⟩ | exact .inr (.inl ⟨by assumption, fun j j0 j1 => hall j j0 (by omega), rfl, not_false⟩) | (refine .inl ⟨?_, rfl, not_false⟩; assumption), hS.nl⟩
  iterate 5 refine zlo ?_
  refine zlv xpf ?_
  refine zlt <| zcf <| zxt <| ztx <| ztx <| zbh <| ztn <| zsr ?_
  refine zs2 ?_
  refine zlt <| zrt <| zf2 ⟨_, rfl, ?_⟩
  exact ⟨0, False, by rw [B_false not_false], by first | exact .inl ⟨‹¬ SoundS s›, rfl, not_false⟩ | exact .inr (.inl ⟨by assumption, fun j j0 j1 => hall j j0 (by omega), rfl, not_false⟩) | (refine .inl ⟨?_, rfl, not_false⟩; assumption), hS.nl⟩

end Go.Proofs.Ytelfplepnodbgaa
