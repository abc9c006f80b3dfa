/- The walk of the search of first fit. -/
import Derived.Test.YtopmifmfecfaaaaGv
import Derived.Test.YtopmifmfecfaaaaR2
namespace Go.Proofs.Ytopmifmfecfaaaa
open Go Go.RowKit Go.Proofs.Gw
set_option linter.unusedVariables false

theorem cl_79 : calledT Try.prog 79 = true := by kernel_rfl
theorem c_ff1 {x m : Int} {a1 : Addr} (w0 : World) (hp1 : w0.cell? a1 = some (.int .i64 m)) :
    Calls Try.prog 79 [.int .i64 x, .pointer (some a1)].toArray w0 fun e w => ∃ v, e = .returned v ∧ v = B (m ≤ x) ∧ Sat w0 w [] := by
  refine zenG Try.func79 Try.ntmps79 fun w hS => ?_
  refine zsr ?_
  refine zlv xas ?_
  refine zlz ?_
  refine zlv xmv ?_
  refine zlv (xlf pl_3 hp1 hS) ?_
  refine zs2 ?_
  refine zlt <| zrt <| zf1 ⟨_, rfl, ?_⟩
  exact ⟨B_congr (by omega), hS⟩

set_option maxRecDepth 20000 in
theorem c_ixff {v : Value} {n m : Int} {f : Int → Int} {a1 : Addr} (w0 : World) (hR : Row w0 v 1 n (ints f)) (hp1 : w0.cell? a1 = some (.int .i64 m)) :
    Calls Try.prog 78 [v, .func (.func 79) #[] #[.pointer (some a1)]].toArray w0 fun e w => ∃ v, e = .returned v ∧ ∃ r : Int, v = .int .i64 r ∧ ((r = -1 ∧ ∀ k, 0 ≤ k → k < n → ¬ (m ≤ f k)) ∨ (0 ≤ r ∧ r < n ∧ (m ≤ f r) ∧ ∀ k, 0 ≤ k → k < r → ¬ (m ≤ f k))) ∧ Sat w0 w [] := by
  have hn := hR.slh.n0; have hn1 := hR.slh.n1
  refine zenG Try.func78 Try.ntmps78 fun w hS => ?_
  refine zsr ?_
  refine zlv xas ?_
  refine zlt <| zsq <| zsr ?_
  refine zlv xmv ?_
  refine zlv (xln sl_22 hR.slh) ?_
  refine zlv xmv ?_
  refine zlt <| zbk <| zlp (fun mm M w => ∃ (i : Int), mm = ((n - i).toNat) ∧ (0 ≤ i) ∧ (i ≤ n) ∧ (∀ k, 0 ≤ k → k < i → ¬ (m ≤ f k)) ∧ M = [(0, v), (1, .func (.func 79) #[] #[.pointer (some a1)]), (7, .int .i64 n), (8, .int .i64 i)] ∧ Sat w0 w []) ⟨0, rfl, (by omega), (by omega), ?_, rfl, hS⟩ ?_
  ·
   intro k h0 h1; omega
  clear hS w
  rintro mm M w ⟨i, rfl, h0, h1, hall, rfl, hS⟩
  refine zsr ?_
  refine zlv xlss ?_
  refine zlt <| zsq ?_
  refine zcif ?_ ?_ <;> intro hc
  ·
   refine zsk <| ztn <| zsq <| zbk <| zsr ?_
   refine zs2 ?_
   refine zlz ?_
   refine zs3 ?_
   refine zlv (xix (kk := i) sl_22 hR.slh) ?_
   refine zlv (xlr (u := .int .i64 (f i)) pl_3 (hR.below hS.below)) ?_
   refine zlc (xcc (vs := [_]) cl_79) (c_ff1 (x := (f i)) (m := m) w (hS.ref hp1)) ?_; rintro _ w ⟨rfl, hS'⟩
   replace hS := hS.cmp hS'; clear hS'
   refine zlt ?_
   refine zcif ?_ ?_ <;> intro hc
   ·
    refine zsr ?_
    refine zs2 ?_
    refine zlt <| zrt <| zbr <| ztr <| ztr <| zbr <| ztr <| zf1 ⟨_, rfl, ?_⟩
    exact ⟨i, rfl, .inr ⟨by omega, by omega, ‹m ≤ f i›, hall⟩, hS⟩
   refine zsk <| zbn <| ztn <| zrg ?_
   refine zlv (xadd (r := i + 1)) ?_
   refine zlv xmv ?_
   refine zln <| zlq ⟨i + 1, rfl, (by omega), (by omega), ?_, rfl, hS⟩
   ·
    intro k h0' h1'; rcases Int.lt_or_eq_of_le (show k ≤ i by omega) with hk | hk; exact hall k h0' hk; rw [hk]; assumption
  refine zxt <| ztx <| ztx <| zbh <| ztn <| zsr ?_
  refine zlv xas ?_
  refine zlt <| zrt <| zf1 ⟨_, rfl, ?_⟩
  exact ⟨-1, rfl, .inl ⟨rfl, fun k h0 h1 => hall k h0 (by omega)⟩, hS⟩

end Go.Proofs.Ytopmifmfecfaaaa
