/- The walks of small functions on slices of ints. -/
import Derived.Test.YtkcmbndnhcofpaaGv
import Derived.Test.YtkcmbndnhcofpaaSh
import Derived.Test.YtkcmbndnhcofpaaFt
import Derived.Test.YtkcmbndnhcofpaaIt
namespace Go.Proofs.Ytkcmbndnhcofpaa
open Go Go.RowKit Go.Proofs.Gw
set_option linter.unusedVariables false

theorem cl_31 : calledT Try.prog 31 = true := by kernel_rfl
theorem cl_32 : calledT Try.prog 32 = true := by kernel_rfl
theorem cl_38 : calledT Try.prog 38 = true := by kernel_rfl
theorem pl_3 : plainT Try.prog 3 = true := by kernel_rfl
theorem sl_22 : sliceT Try.prog 22 = some (3, 1) := by kernel_rfl
theorem c_btw1 {x m : Int} {a1 : Addr} (w0 : World) (hp1 : w0.cell? a1 = some (.int .i64 m)) (hm : 0 ≤ m ∧ m ≤ 1099511627776) :
    Calls Try.prog 32 [.int .i64 x, .pointer (some a1)].toArray w0 fun e w => ∃ v, e = .returned v ∧ v = B (¬ (-m ≤ x ∧ x ≤ m)) ∧ Sat w0 w [] := by
  refine zenG Try.func32 Try.ntmps32 fun w hS => ?_
  refine zsr ?_
  refine zlv xas ?_
  refine zlz ?_
  refine zlv xmv ?_
  refine zlv (xlf pl_3 hp1 hS) ?_
  refine zlv (xneg (r := -m)) ?_
  refine zs2 ?_
  refine zlb 8 ?_ ?_ <;> intro hc
  ·
   iterate 3 refine zlo ?_
   refine zs2 ?_
   refine zlt <| zrt <| zf1 ⟨_, rfl, ?_⟩
   exact ⟨true_B (by omega), hS⟩
  refine zlv xmv ?_
  refine zlv (xlf pl_3 hp1 hS) ?_
  refine zs3 ?_
  refine zlt <| zrt <| zf1 ⟨_, rfl, ?_⟩
  exact ⟨B_congr (by omega), hS⟩

theorem c_ixbtw {v : Value} {n m : Int} {f : Int → Int} {a1 : Addr} (w0 : World) (hR : Row w0 v 1 n (ints f)) (hp1 : w0.cell? a1 = some (.int .i64 m)) (hm : 0 ≤ m ∧ m ≤ 1099511627776) :
    Calls Try.prog 38 [v, .func (.func 32) #[] #[.pointer (some a1)]].toArray w0 fun e w => ∃ v, e = .returned v ∧ ∃ r : Int, v = .int .i64 r ∧ ((r = -1 ∧ ∀ k, 0 ≤ k → k < n → ¬ (¬ (-m ≤ f k ∧ f k ≤ m))) ∨ (0 ≤ r ∧ r < n ∧ (¬ (-m ≤ f r ∧ f r ≤ m)))) ∧ Sat w0 w [] := by
  have hn := hR.slh.n0; have hn1 := hR.slh.n1
  refine zenG Try.func38 Try.ntmps38 fun w hS => ?_
  refine zsr ?_
  refine zlv xas ?_
  refine zlt <| zsq <| zsr ?_
  refine zlv xmv ?_
  refine zlv (xln sl_22 hR.slh) ?_
  refine zlv xmv ?_
  refine zlt <| zbk <| zlp (fun mm M w => ∃ (i : Int), mm = ((n - i).toNat) ∧ (0 ≤ i) ∧ (i ≤ n) ∧ (∀ k, 0 ≤ k → k < i → ¬ (¬ (-m ≤ f k ∧ f k ≤ m))) ∧ M = [(0, v), (1, .func (.func 32) #[] #[.pointer (some a1)]), (7, .int .i64 n), (8, .int .i64 i)] ∧ Sat w0 w []) ⟨0, rfl, (by omega), (by omega), ?_, rfl, hS⟩ ?_
  ·
   intro k h0 h1; omega
  clear hS w
  rintro mm M w ⟨i, rfl, h0, h1, hall, rfl, hS⟩
  refine zsr ?_
  refine zlv xlss ?_
  refine zlt <| zsq ?_
  refine zcif ?_ ?_ <;> intro hc
  ·
   refine zsk <| ztn <| zsq <| zbk <| zsr ?_
   refine zs2 ?_
   refine zlz ?_
   refine zs3 ?_
   refine zlv (xix (kk := i) sl_22 hR.slh) ?_
   refine zlv (xlr (u := .int .i64 (f i)) pl_3 (hR.below hS.below)) ?_
   refine zlc (xcc (vs := [_]) cl_32) (c_btw1 (x := (f i)) (m := m) w (hS.ref hp1) hm) ?_; rintro _ w ⟨rfl, hS'⟩
   replace hS := hS.cmp hS'; clear hS'
   refine zlt ?_
   refine zcif ?_ ?_ <;> intro hc
   ·
    refine zsr ?_
    refine zs2 ?_
    refine zlt <| zrt <| zbr <| ztr <| ztr <| zbr <| ztr <| zf1 ⟨_, rfl, ?_⟩
    exact ⟨i, rfl, .inr ⟨by omega, by omega, ‹¬ (-m ≤ f i ∧ f i ≤ m)›⟩, hS⟩
   refine zsk <| zbn <| ztn <| zrg ?_
   refine zlv (xadd (r := i + 1)) ?_
   refine zlv xmv ?_
   refine zln <| zlq ⟨i + 1, rfl, (by omega), (by omega), ?_, rfl, hS⟩
   ·
    intro k h0' h1'; rcases Int.lt_or_eq_of_le (show k ≤ i by omega) with hk | hk; exact hall k h0' hk; rw [hk]; assumption
  refine zxt <| ztx <| ztx <| zbh <| ztn <| zsr ?_
  refine zlv xas ?_
  refine zlt <| zrt <| zf1 ⟨_, rfl, ?_⟩
  exact ⟨-1, rfl, .inl ⟨rfl, fun k h0 h1 => hall k h0 (by omega)⟩, hS⟩

theorem c_cobtw {v : Value} {n m : Int} {f : Int → Int} {a1 : Addr} (w0 : World) (hR : Row w0 v 1 n (ints f)) (hp1 : w0.cell? a1 = some (.int .i64 m)) (hm : 0 ≤ m ∧ m ≤ 1099511627776) :
    Calls Try.prog 31 [v, .func (.func 32) #[] #[.pointer (some a1)]].toArray w0 fun e w => ∃ v, e = .returned v ∧ v = B (∃ k, 0 ≤ k ∧ k < n ∧ (¬ (-m ≤ f k ∧ f k ≤ m))) ∧ Sat w0 w [] := by
  refine zenG Try.func31 Try.ntmps31 fun w hS => ?_
  refine zsr ?_
  refine zlv xas ?_
  refine zlz ?_
  refine zs2 ?_
  refine zlc (xc0 cl_38) (c_ixbtw w (hR.below hS.below) (hS.ref hp1) hm) ?_; rintro _ w ⟨r1, rfl, hr1, hS'⟩
  replace hS := hS.cmp hS'; clear hS'
  refine zs2 ?_
  refine zlt <| zrt <| zf1 ⟨_, rfl, ?_⟩
  exact ⟨B_congr (by
   rcases hr1 with ⟨h1, h2⟩ | ⟨h1, h2, h3⟩
   · exact ⟨fun h => by omega, fun ⟨k, h4, h5, h6⟩ => absurd h6 (h2 k h4 h5)⟩
   · exact ⟨fun _ => ⟨_, h1, h2, h3⟩, fun _ => h1⟩), hS⟩

theorem c_between {v : Value} {n m : Int} {f : Int → Int} (w0 : World) (hR : Row w0 v 1 n (ints f)) (hm : 0 ≤ m ∧ m ≤ 1099511627776) :
    Calls Try.prog 19 [v, .int .i64 m].toArray w0 fun e w => ∃ v, e = .returned v ∧ v = B (Btw f n m) ∧ Sat w0 w [] := by
  refine zenG Try.func19 Try.ntmps19 fun w hS => ?_
  refine zsr ?_
  refine zla (xbx (cs := [_]) hS) ?_; rintro _ w ⟨g1, rfl, hS⟩
  replace hS := hS.n1
  refine zlv xas ?_
  refine zlz ?_
  refine zlv xmv ?_
  refine zlv xmf ?_
  refine zlc (xc0 cl_31) (c_cobtw (m := m) w (hR.below hS.below) (hS.cellN 0 rfl rfl) hm) ?_; rintro _ w ⟨rfl, hS'⟩
  replace hS := hS.cmp hS'; clear hS'
  refine zs2 ?_
  refine zlt <| zrt <| zf1 ⟨_, rfl, ?_⟩
  exact ⟨B_congr ⟨fun h k k0 k1 => Classical.not_not.1 fun hh => h ⟨k, k0, k1, hh⟩, fun h ⟨k, k0, k1, hh⟩ => hh (h k k0 k1)⟩, hS.nl⟩

set_option maxRecDepth 20000 in
theorem c_min {v : Value} {n : Int} {f : Int → Int} (w0 : World) (hR : Row w0 v 1 n (ints f)) (hn : 1 ≤ n) :
    Calls Try.prog 24 [v].toArray w0 fun e w => ∃ v, e = .returned v ∧ ∃ x : Int, v = .int .i64 x ∧ (∃ k, 0 ≤ k ∧ k < n ∧ f k = x) ∧ (∀ k, 0 ≤ k → k < n → x ≤ f k) ∧ Sat w0 w [] := by
  have hn1 := hR.slh.n1
  refine zenG Try.func24 Try.ntmps24 fun w hS => ?_
  refine zsr ?_
  refine zlv xas ?_
  refine zlt <| zsq <| zsr ?_
  refine zlv xmv ?_
  refine zlv (xln sl_22 hR.slh) ?_
  refine zlv (xkf xlss) ?_
  refine zlt <| zcf <| zsk <| ztn <| zsr ?_
  refine zlv xmv ?_
  refine zlv (xix (kk := 0) sl_22 hR.slh) ?_
  refine zlv (xlr (u := .int .i64 (f 0)) pl_3 (hR.below hS.below)) ?_
  refine zlv xas ?_
  refine zlt <| zsq <| zsr ?_
  refine zlv xas ?_
  refine zlt <| zbk <| zlp (fun mm M w => ∃ (x : Int) (i : Int), mm = ((n - i).toNat) ∧ (1 ≤ i) ∧ (i ≤ n) ∧ (∃ k, 0 ≤ k ∧ k < n ∧ f k = x) ∧ (∀ k, 0 ≤ k → k < i → x ≤ f k) ∧ M = [(0, v), (2, .int .i64 0), (3, .int .i64 x), (4, .int .i64 i)] ∧ Sat w0 w []) ⟨(f 0), 1, rfl, (by omega), (by omega), ?_, ?_, rfl, hS⟩ ?_
  ·
   exact ⟨0, by omega, by omega, rfl⟩
  ·
   intro k k0 k1; rw [show k = 0 by omega]; exact Int.le_refl _
  clear hS w
  rintro mm M w ⟨x, i, rfl, h0, h1, hex, hall, rfl, hS⟩
  refine zsq <| zsr ?_
  refine zs2 ?_
  refine zlv (xln sl_22 hR.slh) ?_
  refine zlv xlss ?_
  refine zlt ?_
  refine zcif ?_ ?_ <;> intro hc
  ·
   refine zsk <| ztn <| zsq <| zbk <| zrg ?_
   refine zs3 ?_
   refine zlv (xix (kk := i) sl_22 hR.slh) ?_
   refine zlv (xlr (u := .int .i64 (f i)) pl_3 (hR.below hS.below)) ?_
   refine zlv (xmin (r := (min x (f i)))) ?_
   refine zlv xas ?_
   refine zln <| zbn <| ztn <| zrg ?_
   refine zlv xmv ?_
   refine zlv (xadd (r := i + 1)) ?_
   refine zlv xas ?_
   refine zln <| zlq ⟨(min x (f i)), i + 1, rfl, (by omega), (by omega), ?_, ?_, rfl, hS⟩
   ·
    rcases Int.le_total x (f i) with hh | hh
    · first | (rw [Int.min_eq_left hh]; exact hex) | (rw [Int.min_eq_right hh]; exact ⟨i, by omega, by omega, rfl⟩)
    · first | (rw [Int.min_eq_right hh]; exact ⟨i, by omega, by omega, rfl⟩) | (rw [Int.min_eq_left hh]; exact hex)
   ·
    intro k k0 k1; rcases Int.lt_or_eq_of_le (show k ≤ i by omega) with hk | hk
    · have := hall k k0 hk; omega
    · rw [hk]; omega
  refine zxt <| ztx <| ztx <| zbh <| ztn <| zsr ?_
  refine zs2 ?_
  refine zlt <| zrt <| zf1 ⟨_, rfl, ?_⟩
  exact ⟨_, rfl, hex, fun k k0 k1 => hall k k0 (by omega), hS⟩

theorem c_within {v : Value} {n lo hi : Int} {f : Int → Int} (w0 : World) (hR : Row w0 v 1 n (ints f)) :
    Calls Try.prog 13 [v, .int .i64 lo, .int .i64 hi].toArray w0 fun e w => ∃ v, e = .returned v ∧ v = B (∀ k, 0 ≤ k → k < n → lo ≤ f k ∧ f k ≤ hi) ∧ Sat w0 w [] := by
  have hn := hR.slh.n0; have hn1 := hR.slh.n1
  refine zenG Try.func13 Try.ntmps13 fun w hS => ?_
  refine zsr ?_
  refine zlv xas ?_
  refine zlt <| zsq <| zsr ?_
  refine zlv xas ?_
  refine zlt <| zbk <| zlp (fun mm M w => ∃ (i : Int), mm = ((n - i).toNat) ∧ (0 ≤ i) ∧ (i ≤ n) ∧ (∀ k, 0 ≤ k → k < i → lo ≤ f k ∧ f k ≤ hi) ∧ M = [(0, v), (1, .int .i64 lo), (2, .int .i64 hi), (7, .int .i64 i)] ∧ Sat w0 w []) ⟨0, rfl, (by omega), (by omega), ?_, rfl, hS⟩ ?_
  ·
   intro k h0 h1; omega
  clear hS w
  rintro mm M w ⟨i, rfl, h0, h1, hall, rfl, hS⟩
  refine zsq <| zsr ?_
  refine zs2 ?_
  refine zlv (xln sl_22 hR.slh) ?_
  refine zlv xlss ?_
  refine zlt ?_
  refine zcif ?_ ?_ <;> intro hc
  ·
   refine zsk <| ztn <| zsq <| zbk <| zsr ?_
   refine zs2 ?_
   refine zlv (xix (kk := i) sl_22 hR.slh) ?_
   refine zlv (xlr (u := .int .i64 (f i)) pl_3 (hR.below hS.below)) ?_
   refine zs3 ?_
   refine zlb 20 ?_ ?_ <;> intro hc
   ·
    iterate 6 refine zlo ?_
    refine zlv xpt ?_
    refine zlt <| zct <| zsr ?_
    refine zlv xas ?_
    refine zlt <| zrt <| zbr <| ztr <| ztr <| zbr <| ztr <| zf1 ⟨_, rfl, ?_⟩
    exact ⟨false_B (by intro hh; have := hh i (by omega) (by omega); omega), hS⟩
   refine zs2 ?_
   refine zlv (xix (kk := i) sl_22 hR.slh) ?_
   refine zlv (xlr (u := .int .i64 (f i)) pl_3 (hR.below hS.below)) ?_
   refine zs3 ?_
   refine zlt ?_
   refine zcif ?_ ?_ <;> intro hc
   ·
    refine zsr ?_
    refine zlv xas ?_
    refine zlt <| zrt <| zbr <| ztr <| ztr <| zbr <| ztr <| zf1 ⟨_, rfl, ?_⟩
    exact ⟨false_B (by intro hh; have := hh i (by omega) (by omega); omega), hS⟩
   refine zsk <| zbn <| ztn <| zrg ?_
   refine zlv xmv ?_
   refine zlv (xadd (r := i + 1)) ?_
   refine zlv xas ?_
   refine zln <| zlq ⟨i + 1, rfl, (by omega), (by omega), ?_, rfl, hS⟩
   ·
    intro k h0' h1'; rcases Int.lt_or_eq_of_le (show k ≤ i by omega) with hk | hk; exact hall k h0' hk; rw [hk]; omega
  refine zxt <| ztx <| ztx <| zbh <| ztn <| zsr ?_
  refine zlv xas ?_
  refine zlt <| zrt <| zf1 ⟨_, rfl, ?_⟩
  exact ⟨true_B (by exact fun k k0 k1 => hall k k0 (by omega)), hS⟩

theorem c_clone {v : Value} {n : Int} {f : Int → Int} (w0 : World) (hR : Row w0 v 1 n (ints f)) (hn : n ≤ 1000000) : Calls Try.prog 16 [v].toArray w0 fun e w => ∃ u, e = .returned u ∧ ∃ r, u = r ∧ Slh r n ∧ Sat w0 w [.own r 1 3 n (ints f)] := by
  have hn0 := hR.slh.n0
  have hl := listOf_length f n
  have fin : ∀ {r : Value} {w : World} {xs : List Value}, w.ownsRow w0.heap.size 3 1 r n.toNat xs → xs = cellsOf (ints f) n.toNat → Below w0.heap.size w0 w → Slh r n ∧ Sat w0 w [.own r 1 3 n (ints f)] := fun {r w xs} hrow hxs hB => by
    subst hxs
    have hE : (Ent.own r 1 3 n (ints f)).holds w := Ent.holds.of_owns hn0 (by omega) (by rw [Nat.mul_one]; exact hrow)
    exact ⟨hE.row.slh, hB, fun e he => by obtain rfl := List.mem_singleton.1 he; exact hE, fun e he g hg => by obtain rfl := List.mem_singleton.1 he; exact (hrow.lt g hg).1, List.pairwise_singleton _ _⟩
  obtain ⟨_, _, a, cap, rfl, h⟩ := hR.slh
  cases a with
  | none =>
    have h0 : n = 0 := by rcases h with h | ⟨_, _, h⟩; exact h; cases h
    subst h0
    refine (slices_Clone_int_nil 0 cap w0).mono fun e w ⟨he, hw⟩ => ⟨_, he, _, rfl, slh_nil, ?_⟩
    rw [hw]
    exact (Sat.start w0).addnil 1 3 (ints f)
  | some ad =>
    rcases h with h | ⟨b, off, h⟩
    · subst h
      refine (slices_Clone_int_zero ad cap w0).mono fun e w ⟨r, he, hrow, _, hB⟩ => ⟨r, he, r, rfl, ?_⟩
      exact fin hrow rfl hB
    · cases h
      refine (slices_Clone_int b off n.toNat cap (listOf f n) w0 (by omega) (by omega) (fun j hj => ?_)).mono fun e w ⟨r, he, hrow, _, hB⟩ => ⟨r, he, r, rfl, fin hrow ?_ hB⟩
      · have := hR.2 j (by omega)
        simp only [cad, Int.toNat_natCast] at this
        rw [this]
        rw [hl] at hj
        simp [ints, listOf, hj]
      · rw [List.take_of_length_le (by omega), ints_list]; rfl

end Go.Proofs.Ytkcmbndnhcofpaa
