/- The walk of Pivot, of tableau. -/
import Derived.Test.YtopmifmfecfaaaaGv
import Derived.Test.YtopmifmfecfaaaaSh
import Derived.Test.YtopmifmfecfaaaaFt
import Derived.Test.YtopmifmfecfaaaaIt
namespace Go.Proofs.Ytopmifmfecfaaaa
open Go Go.RowKit Go.Proofs.Gw
set_option linter.unusedVariables false

theorem cl_111 : calledT Try.prog 111 = true := by kernel_rfl
theorem cl_112 : calledT Try.prog 112 = true := by kernel_rfl
theorem cl_113 : calledT Try.prog 113 = true := by kernel_rfl
theorem cl_114 : calledT Try.prog 114 = true := by kernel_rfl
theorem cl_115 : calledT Try.prog 115 = true := by kernel_rfl
theorem cl_120 : calledT Try.prog 120 = true := by kernel_rfl
theorem cl_121 : calledT Try.prog 121 = true := by kernel_rfl
theorem cl_122 : calledT Try.prog 122 = true := by kernel_rfl
theorem cl_123 : calledT Try.prog 123 = true := by kernel_rfl
theorem cl_124 : calledT Try.prog 124 = true := by kernel_rfl
theorem cl_129 : calledT Try.prog 129 = true := by kernel_rfl
theorem cl_130 : calledT Try.prog 130 = true := by kernel_rfl
theorem cl_132 : calledT Try.prog 132 = true := by kernel_rfl
theorem cl_134 : calledT Try.prog 134 = true := by kernel_rfl
theorem cl_35 : calledT Try.prog 35 = true := by kernel_rfl
theorem cl_42 : calledT Try.prog 42 = true := by kernel_rfl
theorem cl_69 : calledT Try.prog 69 = true := by kernel_rfl
theorem cl_75 : calledT Try.prog 75 = true := by kernel_rfl
theorem cl_78 : calledT Try.prog 78 = true := by kernel_rfl
theorem el_108 : elemT Try.prog 108 = some (.agg #[.int .i64 0, .int .i64 0, .slice none 0 0, .slice none 0 0, .slice none 0 0], 5, 88) := by kernel_rfl
theorem el_22 : elemT Try.prog 22 = some (.slice none 0 0, 1, 24) := by kernel_rfl
theorem el_3 : elemT Try.prog 3 = some (.int .i64 0, 1, 8) := by kernel_rfl
theorem fd_108_0 : fieldT Try.prog 108 0 = some 0 := by kernel_rfl
theorem fd_108_1 : fieldT Try.prog 108 1 = some 1 := by kernel_rfl
theorem fd_108_2 : fieldT Try.prog 108 2 = some 2 := by kernel_rfl
theorem fd_108_3 : fieldT Try.prog 108 3 = some 3 := by kernel_rfl
theorem fd_108_4 : fieldT Try.prog 108 4 = some 4 := by kernel_rfl
theorem mx_ : Try.prog.follows .mixedOrders = true := by kernel_rfl
theorem pl_22 : plainT Try.prog 22 = true := by kernel_rfl
theorem pl_3 : plainT Try.prog 3 = true := by kernel_rfl
theorem pl_32 : plainT Try.prog 32 = true := by kernel_rfl
theorem sl_22 : sliceT Try.prog 22 = some (3, 1) := by kernel_rfl
theorem sl_32 : sliceT Try.prog 32 = some (22, 1) := by kernel_rfl
theorem st_108 : structT Try.prog 108 = some 5 := by kernel_rfl
theorem c_btw1 {x m : Int} {a1 : Addr} (w0 : World) (hp1 : w0.cell? a1 = some (.int .i64 m)) (hm : 0 ≤ m ∧ m ≤ 1099511627776) :
    Calls Try.prog 120 [.int .i64 x, .pointer (some a1)].toArray w0 fun e w => ∃ v, e = .returned v ∧ v = B (¬ (-m ≤ x ∧ x ≤ m)) ∧ Sat w0 w [] := by
  refine zenG Try.func120 Try.ntmps120 fun w hS => ?_
  refine zsr ?_
  refine zlv xas ?_
  refine zlz ?_
  refine zlv xmv ?_
  refine zlv (xlf pl_3 hp1 hS) ?_
  refine zlv (xneg (r := -m)) ?_
  refine zs2 ?_
  refine zlb 8 ?_ ?_ <;> intro hc
  ·
   iterate 3 refine zlo ?_
   refine zs2 ?_
   refine zlt <| zrt <| zf1 ⟨_, rfl, ?_⟩
   exact ⟨true_B (by omega), hS⟩
  refine zlv xmv ?_
  refine zlv (xlf pl_3 hp1 hS) ?_
  refine zs3 ?_
  refine zlt <| zrt <| zf1 ⟨_, rfl, ?_⟩
  exact ⟨B_congr (by omega), hS⟩

theorem c_ixbtw {v : Value} {n m : Int} {f : Int → Int} {a1 : Addr} (w0 : World) (hR : Row w0 v 1 n (ints f)) (hp1 : w0.cell? a1 = some (.int .i64 m)) (hm : 0 ≤ m ∧ m ≤ 1099511627776) :
    Calls Try.prog 78 [v, .func (.func 120) #[] #[.pointer (some a1)]].toArray w0 fun e w => ∃ v, e = .returned v ∧ ∃ r : Int, v = .int .i64 r ∧ ((r = -1 ∧ ∀ k, 0 ≤ k → k < n → ¬ (¬ (-m ≤ f k ∧ f k ≤ m))) ∨ (0 ≤ r ∧ r < n ∧ (¬ (-m ≤ f r ∧ f r ≤ m)))) ∧ Sat w0 w [] := by
  have hn := hR.slh.n0; have hn1 := hR.slh.n1
  refine zenG Try.func78 Try.ntmps78 fun w hS => ?_
  refine zsr ?_
  refine zlv xas ?_
  refine zlt <| zsq <| zsr ?_
  refine zlv xmv ?_
  refine zlv (xln sl_22 hR.slh) ?_
  refine zlv xmv ?_
  refine zlt <| zbk <| zlp (fun mm M w => ∃ (i : Int), mm = ((n - i).toNat) ∧ (0 ≤ i) ∧ (i ≤ n) ∧ (∀ k, 0 ≤ k → k < i → ¬ (¬ (-m ≤ f k ∧ f k ≤ m))) ∧ M = [(0, v), (1, .func (.func 120) #[] #[.pointer (some a1)]), (7, .int .i64 n), (8, .int .i64 i)] ∧ Sat w0 w []) ⟨0, rfl, (by omega), (by omega), ?_, rfl, hS⟩ ?_
  ·
   intro k h0 h1; omega
  clear hS w
  rintro mm M w ⟨i, rfl, h0, h1, hall, rfl, hS⟩
  refine zsr ?_
  refine zlv xlss ?_
  refine zlt <| zsq ?_
  refine zcif ?_ ?_ <;> intro hc
  ·
   refine zsk <| ztn <| zsq <| zbk <| zsr ?_
   refine zs2 ?_
   refine zlz ?_
   refine zs3 ?_
   refine zlv (xix (kk := i) sl_22 hR.slh) ?_
   refine zlv (xlr (u := .int .i64 (f i)) pl_3 (hR.below hS.below)) ?_
   refine zlc (xcc (vs := [_]) cl_120) (c_btw1 (x := (f i)) (m := m) w (hS.ref hp1) hm) ?_; rintro _ w ⟨rfl, hS'⟩
   replace hS := hS.cmp hS'; clear hS'
   refine zlt ?_
   refine zcif ?_ ?_ <;> intro hc
   ·
    refine zsr ?_
    refine zs2 ?_
    refine zlt <| zrt <| zbr <| ztr <| ztr <| zbr <| ztr <| zf1 ⟨_, rfl, ?_⟩
    exact ⟨i, rfl, .inr ⟨by omega, by omega, ‹¬ (-m ≤ f i ∧ f i ≤ m)›⟩, hS⟩
   refine zsk <| zbn <| ztn <| zrg ?_
   refine zlv (xadd (r := i + 1)) ?_
   refine zlv xmv ?_
   refine zln <| zlq ⟨i + 1, rfl, (by omega), (by omega), ?_, rfl, hS⟩
   ·
    intro k h0' h1'; rcases Int.lt_or_eq_of_le (show k ≤ i by omega) with hk | hk; exact hall k h0' hk; rw [hk]; assumption
  refine zxt <| ztx <| ztx <| zbh <| ztn <| zsr ?_
  refine zlv xas ?_
  refine zlt <| zrt <| zf1 ⟨_, rfl, ?_⟩
  exact ⟨-1, rfl, .inl ⟨rfl, fun k h0 h1 => hall k h0 (by omega)⟩, hS⟩

theorem c_cobtw {v : Value} {n m : Int} {f : Int → Int} {a1 : Addr} (w0 : World) (hR : Row w0 v 1 n (ints f)) (hp1 : w0.cell? a1 = some (.int .i64 m)) (hm : 0 ≤ m ∧ m ≤ 1099511627776) :
    Calls Try.prog 75 [v, .func (.func 120) #[] #[.pointer (some a1)]].toArray w0 fun e w => ∃ v, e = .returned v ∧ v = B (∃ k, 0 ≤ k ∧ k < n ∧ (¬ (-m ≤ f k ∧ f k ≤ m))) ∧ Sat w0 w [] := by
  refine zenG Try.func75 Try.ntmps75 fun w hS => ?_
  refine zsr ?_
  refine zlv xas ?_
  refine zlz ?_
  refine zs2 ?_
  refine zlc (xc0 cl_78) (c_ixbtw w (hR.below hS.below) (hS.ref hp1) hm) ?_; rintro _ w ⟨r1, rfl, hr1, hS'⟩
  replace hS := hS.cmp hS'; clear hS'
  refine zs2 ?_
  refine zlt <| zrt <| zf1 ⟨_, rfl, ?_⟩
  exact ⟨B_congr (by
   rcases hr1 with ⟨h1, h2⟩ | ⟨h1, h2, h3⟩
   · exact ⟨fun h => by omega, fun ⟨k, h4, h5, h6⟩ => absurd h6 (h2 k h4 h5)⟩
   · exact ⟨fun _ => ⟨_, h1, h2, h3⟩, fun _ => h1⟩), hS⟩

theorem c_between {v : Value} {n m : Int} {f : Int → Int} (w0 : World) (hR : Row w0 v 1 n (ints f)) (hm : 0 ≤ m ∧ m ≤ 1099511627776) :
    Calls Try.prog 111 [v, .int .i64 m].toArray w0 fun e w => ∃ v, e = .returned v ∧ v = B (Btw f n m) ∧ Sat w0 w [] := by
  refine zenG Try.func111 Try.ntmps111 fun w hS => ?_
  refine zsr ?_
  refine zla (xbx (cs := [_]) hS) ?_; rintro _ w ⟨g1, rfl, hS⟩
  replace hS := hS.n1
  refine zlv xas ?_
  refine zlz ?_
  refine zlv xmv ?_
  refine zlv xmf ?_
  refine zlc (xc0 cl_75) (c_cobtw (m := m) w (hR.below hS.below) (hS.cellN 0 rfl rfl) hm) ?_; rintro _ w ⟨rfl, hS'⟩
  replace hS := hS.cmp hS'; clear hS'
  refine zs2 ?_
  refine zlt <| zrt <| zf1 ⟨_, rfl, ?_⟩
  exact ⟨B_congr ⟨fun h k k0 k1 => Classical.not_not.1 fun hh => h ⟨k, k0, k1, hh⟩, fun h ⟨k, k0, k1, hh⟩ => hh (h k k0 k1)⟩, hS.nl⟩

set_option maxRecDepth 20000 in
theorem c_min {v : Value} {n : Int} {f : Int → Int} (w0 : World) (hR : Row w0 v 1 n (ints f)) (hn : 1 ≤ n) :
    Calls Try.prog 113 [v].toArray w0 fun e w => ∃ v, e = .returned v ∧ ∃ x : Int, v = .int .i64 x ∧ (∃ k, 0 ≤ k ∧ k < n ∧ f k = x) ∧ (∀ k, 0 ≤ k → k < n → x ≤ f k) ∧ Sat w0 w [] := by
  have hn1 := hR.slh.n1
  refine zenG Try.func113 Try.ntmps113 fun w hS => ?_
  refine zsr ?_
  refine zlv xas ?_
  refine zlt <| zsq <| zsr ?_
  refine zlv xmv ?_
  refine zlv (xln sl_22 hR.slh) ?_
  refine zlv (xkf xlss) ?_
  refine zlt <| zcf <| zsk <| ztn <| zsr ?_
  refine zlv xmv ?_
  refine zlv (xix (kk := 0) sl_22 hR.slh) ?_
  refine zlv (xlr (u := .int .i64 (f 0)) pl_3 (hR.below hS.below)) ?_
  refine zlv xas ?_
  refine zlt <| zsq <| zsr ?_
  refine zlv xas ?_
  refine zlt <| zbk <| zlp (fun mm M w => ∃ (x : Int) (i : Int), mm = ((n - i).toNat) ∧ (1 ≤ i) ∧ (i ≤ n) ∧ (∃ k, 0 ≤ k ∧ k < n ∧ f k = x) ∧ (∀ k, 0 ≤ k → k < i → x ≤ f k) ∧ M = [(0, v), (2, .int .i64 0), (3, .int .i64 x), (4, .int .i64 i)] ∧ Sat w0 w []) ⟨(f 0), 1, rfl, (by omega), (by omega), ?_, ?_, rfl, hS⟩ ?_
  ·
   exact ⟨0, by omega, by omega, rfl⟩
  ·
   intro k k0 k1; rw [show k = 0 by omega]; exact Int.le_refl _
  clear hS w
  rintro mm M w ⟨x, i, rfl, h0, h1, hex, hall, rfl, hS⟩
  refine zsq <| zsr ?_
  refine zs2 ?_
  refine zlv (xln sl_22 hR.slh) ?_
  refine zlv xlss ?_
  refine zlt ?_
  refine zcif ?_ ?_ <;> intro hc
  ·
   refine zsk <| ztn <| zsq <| zbk <| zrg ?_
   refine zs3 ?_
   refine zlv (xix (kk := i) sl_22 hR.slh) ?_
   refine zlv (xlr (u := .int .i64 (f i)) pl_3 (hR.below hS.below)) ?_
   refine zlv (xmin (r := (min x (f i)))) ?_
   refine zlv xas ?_
   refine zln <| zbn <| ztn <| zrg ?_
   refine zlv xmv ?_
   refine zlv (xadd (r := i + 1)) ?_
   refine zlv xas ?_
   refine zln <| zlq ⟨(min x (f i)), i + 1, rfl, (by omega), (by omega), ?_, ?_, rfl, hS⟩
   ·
    rcases Int.le_total x (f i) with hh | hh
    · first | (rw [Int.min_eq_left hh]; exact hex) | (rw [Int.min_eq_right hh]; exact ⟨i, by omega, by omega, rfl⟩)
    · first | (rw [Int.min_eq_right hh]; exact ⟨i, by omega, by omega, rfl⟩) | (rw [Int.min_eq_left hh]; exact hex)
   ·
    intro k k0 k1; rcases Int.lt_or_eq_of_le (show k ≤ i by omega) with hk | hk
    · have := hall k k0 hk; omega
    · rw [hk]; omega
  refine zxt <| ztx <| ztx <| zbh <| ztn <| zsr ?_
  refine zs2 ?_
  refine zlt <| zrt <| zf1 ⟨_, rfl, ?_⟩
  exact ⟨_, rfl, hex, fun k k0 k1 => hall k k0 (by omega), hS⟩

set_option maxRecDepth 20000 in
theorem c_max {v : Value} {n : Int} {f : Int → Int} (w0 : World) (hR : Row w0 v 1 n (ints f)) (hn : 1 ≤ n) :
    Calls Try.prog 38 [v].toArray w0 fun e w => ∃ v, e = .returned v ∧ ∃ x : Int, v = .int .i64 x ∧ (∃ k, 0 ≤ k ∧ k < n ∧ f k = x) ∧ (∀ k, 0 ≤ k → k < n → f k ≤ x) ∧ Sat w0 w [] := by
  have hn1 := hR.slh.n1
  refine zenG Try.func38 Try.ntmps38 fun w hS => ?_
  refine zsr ?_
  refine zlv xas ?_
  refine zlt <| zsq <| zsr ?_
  refine zlv xmv ?_
  refine zlv (xln sl_22 hR.slh) ?_
  refine zlv (xkf xlss) ?_
  refine zlt <| zcf <| zsk <| ztn <| zsr ?_
  refine zlv xmv ?_
  refine zlv (xix (kk := 0) sl_22 hR.slh) ?_
  refine zlv (xlr (u := .int .i64 (f 0)) pl_3 (hR.below hS.below)) ?_
  refine zlv xas ?_
  refine zlt <| zsq <| zsr ?_
  refine zlv xas ?_
  refine zlt <| zbk <| zlp (fun mm M w => ∃ (x : Int) (i : Int), mm = ((n - i).toNat) ∧ (1 ≤ i) ∧ (i ≤ n) ∧ (∃ k, 0 ≤ k ∧ k < n ∧ f k = x) ∧ (∀ k, 0 ≤ k → k < i → f k ≤ x) ∧ M = [(0, v), (2, .int .i64 0), (3, .int .i64 x), (4, .int .i64 i)] ∧ Sat w0 w []) ⟨(f 0), 1, rfl, (by omega), (by omega), ?_, ?_, rfl, hS⟩ ?_
  ·
   exact ⟨0, by omega, by omega, rfl⟩
  ·
   intro k k0 k1; rw [show k = 0 by omega]; exact Int.le_refl _
  clear hS w
  rintro mm M w ⟨x, i, rfl, h0, h1, hex, hall, rfl, hS⟩
  refine zsq <| zsr ?_
  refine zs2 ?_
  refine zlv (xln sl_22 hR.slh) ?_
  refine zlv xlss ?_
  refine zlt ?_
  refine zcif ?_ ?_ <;> intro hc
  ·
   refine zsk <| ztn <| zsq <| zbk <| zrg ?_
   refine zs3 ?_
   refine zlv (xix (kk := i) sl_22 hR.slh) ?_
   refine zlv (xlr (u := .int .i64 (f i)) pl_3 (hR.below hS.below)) ?_
   refine zlv (xmax (r := (max x (f i)))) ?_
   refine zlv xas ?_
   refine zln <| zbn <| ztn <| zrg ?_
   refine zlv xmv ?_
   refine zlv (xadd (r := i + 1)) ?_
   refine zlv xas ?_
   refine zln <| zlq ⟨(max x (f i)), i + 1, rfl, (by omega), (by omega), ?_, ?_, rfl, hS⟩
   ·
    rcases Int.le_total x (f i) with hh | hh
    · first | (rw [Int.max_eq_left hh]; exact hex) | (rw [Int.max_eq_right hh]; exact ⟨i, by omega, by omega, rfl⟩)
    · first | (rw [Int.max_eq_right hh]; exact ⟨i, by omega, by omega, rfl⟩) | (rw [Int.max_eq_left hh]; exact hex)
   ·
    intro k k0 k1; rcases Int.lt_or_eq_of_le (show k ≤ i by omega) with hk | hk
    · have := hall k k0 hk; omega
    · rw [hk]; omega
  refine zxt <| ztx <| ztx <| zbh <| ztn <| zsr ?_
  refine zs2 ?_
  refine zlt <| zrt <| zf1 ⟨_, rfl, ?_⟩
  exact ⟨_, rfl, hex, fun k k0 k1 => hall k k0 (by omega), hS⟩

theorem c_clone {v : Value} {n : Int} {f : Int → Int} (w0 : World) (hR : Row w0 v 1 n (ints f)) (hn : n ≤ 1000000) : Calls Try.prog 42 [v].toArray w0 fun e w => ∃ u, e = .returned u ∧ ∃ r, u = r ∧ Slh r n ∧ Sat w0 w [.own r 1 3 n (ints f)] := by
  have hn0 := hR.slh.n0
  have hl := listOf_length f n
  have fin : ∀ {r : Value} {w : World} {xs : List Value}, w.ownsRow w0.heap.size 3 1 r n.toNat xs → xs = cellsOf (ints f) n.toNat → Below w0.heap.size w0 w → Slh r n ∧ Sat w0 w [.own r 1 3 n (ints f)] := fun {r w xs} hrow hxs hB => by
    subst hxs
    have hE : (Ent.own r 1 3 n (ints f)).holds w := Ent.holds.of_owns hn0 (by omega) (by rw [Nat.mul_one]; exact hrow)
    exact ⟨hE.row.slh, hB, fun e he => by obtain rfl := List.mem_singleton.1 he; exact hE, fun e he g hg => by obtain rfl := List.mem_singleton.1 he; exact (hrow.lt g hg).1, List.pairwise_singleton _ _⟩
  obtain ⟨_, _, a, cap, rfl, h⟩ := hR.slh
  cases a with
  | none =>
    have h0 : n = 0 := by rcases h with h | ⟨_, _, h⟩; exact h; cases h
    subst h0
    refine (slices_Clone_int_nil 0 cap w0).mono fun e w ⟨he, hw⟩ => ⟨_, he, _, rfl, slh_nil, ?_⟩
    rw [hw]
    exact (Sat.start w0).addnil 1 3 (ints f)
  | some ad =>
    rcases h with h | ⟨b, off, h⟩
    · subst h
      refine (slices_Clone_int_zero ad cap w0).mono fun e w ⟨r, he, hrow, _, hB⟩ => ⟨r, he, r, rfl, ?_⟩
      exact fin hrow rfl hB
    · cases h
      refine (slices_Clone_int b off n.toNat cap (listOf f n) w0 (by omega) (by omega) (fun j hj => ?_)).mono fun e w ⟨r, he, hrow, _, hB⟩ => ⟨r, he, r, rfl, fin hrow ?_ hB⟩
      · have := hR.2 j (by omega)
        simp only [cad, Int.toNat_natCast] at this
        rw [this]
        rw [hl] at hj
        simp [ints, listOf, hj]
      · rw [List.take_of_length_le (by omega), ints_list]; rfl

set_option maxRecDepth 20000 in
theorem c_grow {n : Int} (w0 : World) (h0 : 0 ≤ n) (h1 : n ≤ 1000000) :
    Calls Try.prog 132 [.slice none 0 0, .int .i64 n].toArray w0 fun e w => ∃ v, e = .returned v ∧ ∃ r, v = r ∧ Slh r 0 ∧ Sat w0 w [.own r 1 3 0 (ints (fun _ => 0))] := by
  refine zenG Try.func132 Try.ntmps132 fun w hS => ?_
  refine zsr ?_
  refine zlv xas ?_
  refine zlt <| zsq <| zsr ?_
  refine zlv xmv ?_
  refine zlv (xkf xlss) ?_
  refine zlt <| zcf <| zsk <| ztn <| zsq <| zsr ?_
  refine zs2 ?_
  refine zlvr rfl rfl rfl (ex_cap_nil rfl sl_22 rfl) ?_
  refine zlv xmv ?_
  refine zlv (xln sl_22 slh_nil) ?_
  refine zlv (xsub (r := 0)) ?_
  refine zlv (xsub (r := n)) ?_
  refine zlv xas ?_
  refine zlz ?_
  refine zs2 ?_
  refine zlt ?_
  refine zcif ?_ ?_ <;> intro hc
  ·
   refine zrg ?_
   refine zs2 ?_
   refine zlvr rfl rfl rfl (ex_cap_nil rfl sl_22 rfl) ?_
   refine zlv (xany (v := .slice none 0 0)) ?_
   refine zlv xmv ?_
   refine zlar rfl rfl rfl (ex_append_make rfl sl_22 Try.underlying3 el_3 rfl (by omega) rfl rfl (by omega) (by omega) hS) ?_; rintro v1 w ⟨hS, hv1⟩
   replace hS := hS.n1
   refine zlv xmv ?_
   refine zlv (xln sl_22 slh_nil) ?_
   refine zlvr rfl rfl rfl (ex_slice_cut rfl sl_22 rfl rfl hv1) ?_
   replace hS := hS.cut 0 rfl (ints (fun _ => 0))
   replace hS := hS.n1
   refine zlv xas ?_
   refine zlz ?_
   refine zs2 ?_
   refine zlt <| zrt <| zf1 ⟨_, rfl, ?_⟩
   exact ⟨_, rfl, (cut_slh hv1), hS⟩
  refine zsk <| ztn <| zsr ?_
  refine zs2 ?_
  refine zlt <| zrt <| zf1 ⟨_, rfl, ?_⟩
  exact ⟨_, rfl, slh_nil, (hS.addnil 1 3 (ints fun _ => 0)).sub (.cons_cons _ .slnil)⟩

set_option maxRecDepth 20000 in
theorem c_concat {v : Value} {n : Int} {vv : Int → Value} {ln : Int → Int} {f : Int → Int → Int} (w0 : World) (hM : NAt w0 v n vv ln f) (ht : ∀ k, 0 ≤ k → k ≤ n → tot ln k.toNat ≤ 100000) :
    Calls Try.prog 123 [v].toArray w0 fun e w => ∃ v, e = .returned v ∧ ∃ r, v = r ∧ Slh r (tot ln n.toNat) ∧ Sat w0 w [.own r 1 3 (tot ln n.toNat) (ints (catN ln f n.toNat))] := by
  have hn := hM.row.slh.n0; have hn1 := hM.row.slh.n1
  refine zenG Try.func123 Try.ntmps123 fun w hS => ?_
  refine zsr ?_
  refine zlv xas ?_
  refine zlz ?_
  refine zlv xas ?_
  refine zlt <| zsq <| zsr ?_
  refine zlv xmv ?_
  refine zlv (xln sl_32 hM.row.slh) ?_
  refine zlv xmv ?_
  refine zlt <| zbk <| zlp (fun mm M w => ∃ (s : Int) (i : Int), mm = ((n - i).toNat) ∧ (0 ≤ i) ∧ (i ≤ n) ∧ (s = tot ln i.toNat) ∧ (0 ≤ s) ∧ M = [(0, v), (2, .slice none 0 0), (3, .int .i64 s), (9, v), (10, .int .i64 n), (11, .int .i64 i)] ∧ Sat w0 w []) ⟨0, 0, rfl, (by omega), (by omega), ?_, (by omega), rfl, hS⟩ ?_
  ·
   rfl
  clear hS w
  rintro mm M w ⟨s, i, rfl, h0, h1, hs, hs0, rfl, hS⟩
  refine zsr ?_
  refine zlv xlss ?_
  refine zlt <| zsq ?_
  refine zcif ?_ ?_ <;> intro hc
  ·
   refine zsk <| ztn <| zsq <| zbk <| zsr ?_
   refine zlv (xix (kk := i) sl_32 hM.row.slh) ?_
   refine zlv (xlr (u := (vv i)) pl_22 (hM.row.below hS.below)) ?_
   have hl := (hM.p i h0 (by omega)).slh.n0; have ht1 := ht (i + 1) (by omega) (by omega); rw [tot_next ln h0] at ht1
   refine zlv xas ?_
   refine zlz ?_
   refine zs2 ?_
   refine zlv (xln sl_22 (hM.p i (by omega) (by omega)).slh) ?_
   refine zlv (xadd (r := s + (ln i))) ?_
   refine zlv xas ?_
   refine zlz ?_
   refine zlv xmv ?_
   refine zlv (xkf xlss) ?_
   refine zlt <| zcf <| zsk <| zbn <| ztn <| zrg ?_
   refine zlv (xadd (r := i + 1)) ?_
   refine zlv xmv ?_
   refine zln <| zlq ⟨s + (ln i), i + 1, rfl, (by omega), (by omega), ?_, (by omega), rfl, hS⟩
   ·
    rw [tot_next ln h0, hs]
  refine zxt <| ztx <| ztx <| zbh <| ztn <| zsr ?_
  refine zlv xmv ?_
  have hin : i = n := by omega
  have ht2 := ht n hn (Int.le_refl _); rw [← hin] at ht2
  refine zlc (xc0 cl_132) (c_grow (n := s) w (by omega) (by omega)) ?_; rintro vq1 w ⟨_, rfl, hslq1, hS'⟩
  replace hS : Sat w0 w [.own vq1 1 3 0 (ints (fun _ => 0))] := hS.comp hS'; clear hS'
  refine zlv xas ?_
  refine zlt <| zsq <| zsr ?_
  refine zlv xmv ?_
  refine zlv (xln sl_32 hM.row.slh) ?_
  refine zlv xmv ?_
  refine zlt <| zbk <| zlp (fun mm M w => ∃ (m : Int) (j : Int) (vb : Value) (g : Int → Int), mm = ((n - j).toNat) ∧ (0 ≤ j) ∧ (j ≤ n) ∧ (m = tot ln j.toNat) ∧ (0 ≤ m) ∧ (g = catN ln f j.toNat) ∧ (Slh vb m) ∧ M = [(2, .slice none 0 0), (6, vb), (25, v), (26, .int .i64 n), (27, .int .i64 j)] ∧ Sat w0 w [.own vb 1 3 m (ints g)]) ⟨0, 0, vq1, (fun _ => 0), rfl, (by omega), (by omega), ?_, (by omega), ?_, ?_, rfl, hS⟩ ?_
  ·
   rfl
  ·
   rfl
  ·
   exact hslq1
  clear hS w
  rintro mm M w ⟨m, j, vb, g, rfl, h0, h1, hm, hm0, hg, hvb, rfl, hS⟩
  refine zsr ?_
  refine zlv xlss ?_
  refine zlt <| zsq ?_
  refine zcif ?_ ?_ <;> intro hc
  ·
   refine zsk <| ztn <| zsq <| zbk <| zsr ?_
   refine zlv (xix (kk := j) sl_32 hM.row.slh) ?_
   refine zlv (xlr (u := (vv j)) pl_22 (hM.row.below hS.below)) ?_
   have hl := (hM.p j h0 (by omega)).slh.n0; have ht1 := ht (j + 1) (by omega) (by omega); rw [tot_next ln h0] at ht1
   refine zlv xas ?_
   refine zlt <| zrg ?_
   refine zs2 ?_
   refine zla (xap 0 (r := m + (ln j)) (f := ints (cat m g (f j))) sl_22 el_3 hS ((hM.p j (by omega) (by omega)).below hS.below) (by exact cat_ints1 _ _ _)) ?_; rintro v1 w ⟨hS, hv1⟩
   replace hS := hS.n1
   refine zlv xas ?_
   refine zln <| zbn <| ztn <| zrg ?_
   refine zlv (xadd (r := j + 1)) ?_
   refine zlv xmv ?_
   refine zln <| zlq ⟨m + (ln j), j + 1, v1, (cat m g (f j)), rfl, (by omega), (by omega), ?_, (by omega), ?_, ?_, rfl, hS⟩
   ·
    rw [tot_next ln h0, hm]
   ·
    rw [catN_next ln f h0, ← hg, ← hm]
   ·
    exact hv1
  refine zxt <| ztx <| ztx <| zbh <| ztn <| zsr ?_
  refine zs2 ?_
  refine zlt <| zrt <| zf1 ⟨_, rfl, ?_⟩
  obtain rfl : j = n := by omega
  subst hg; subst hm
  exact ⟨_, rfl, hvb, hS⟩

theorem c_values {vs : Value} {n : Int} (w0 : World) (hsl : Slh vs n) :
    Calls Try.prog 122 [vs].toArray w0 fun e w => ∃ v, e = .returned v ∧ ∃ g, v = .func (.func 131) #[] #[.pointer (some ⟨g, 0, none⟩)] ∧ Sat w0 w [.blk g [vs]] := by
  refine zenG Try.func122 Try.ntmps122 fun w hS => ?_
  refine zsr ?_
  refine zla (xbx (cs := [_]) hS (hc := Slh.cells hsl)) ?_; rintro _ w ⟨g1, rfl, hS⟩
  replace hS := hS.n1
  refine zlv xas ?_
  refine zlz ?_
  refine zlv xmf ?_
  refine zlv xas ?_
  refine zlt <| zrt <| zf1 ⟨_, rfl, ?_⟩
  exact ⟨_, rfl, hS⟩

theorem c_collect {v : Value} {n : Int} {f : Int → Int} {Bs : Nat} {E : TypeId} (w0 : World) (hcs : w0.cell? ⟨Bs, 0, none⟩ = some v) (ho : (Ent.own v 1 E n (ints f)).holds w0) (hn : n ≤ 1000000) :
    Calls Try.prog 129 [.func (.func 131) #[] #[.pointer (some (⟨Bs, 0, none⟩))]].toArray w0 fun e w => ∃ v, e = .returned v ∧ ∃ r, v = r ∧ Slh r n ∧ Sat w0 w [.own r 1 3 n (ints f)] := by
  refine zenG Try.func129 Try.ntmps129 fun w hS => ?_
  refine zsr ?_
  refine zlv xas ?_
  refine zlz ?_
  refine zlv xmv ?_
  refine zlc (xc0 cl_134) (c_appendSeq (f := f) w (hS.ref hcs) (hS.kept ho) hn) ?_; rintro vq1 w ⟨_, rfl, hslq1, hS'⟩
  replace hS : Sat w0 w [.own vq1 1 3 n (ints f)] := hS.comp hS'; clear hS'
  refine zlv xas ?_
  refine zlt <| zrt <| zf1 ⟨_, rfl, ?_⟩
  exact ⟨_, rfl, hslq1, hS⟩

theorem c_sorted {v : Value} {n : Int} {f : Int → Int} {Bs : Nat} {E : TypeId} (w0 : World) (hcs : w0.cell? ⟨Bs, 0, none⟩ = some v) (ho : (Ent.own v 1 E n (ints f)).holds w0) (hn : n ≤ 1000000) :
    Calls Try.prog 121 [.func (.func 131) #[] #[.pointer (some (⟨Bs, 0, none⟩))]].toArray w0 fun e w => ∃ v, e = .returned v ∧ ∃ r g, v = r ∧ Slh r n ∧ listOf g n = ((listOf f n).mergeSort fun x y => decide (x ≤ y)) ∧ Sat w0 w [.own r 1 3 n (ints g)] := by
  refine zenG Try.func121 Try.ntmps121 fun w hS => ?_
  refine zsr ?_
  refine zlv xas ?_
  refine zlz ?_
  refine zlv xmv ?_
  refine zlc (xc0 cl_129) (c_collect (f := f) w (hS.ref hcs) (hS.kept ho) hn) ?_; rintro vq1 w ⟨_, rfl, hslq1, hS'⟩
  replace hS : Sat w0 w [.own vq1 1 3 n (ints f)] := hS.comp hS'; clear hS'
  refine zlv xas ?_
  refine zlz ?_
  refine zlv xmv ?_
  refine zlc (xc0 cl_130) (sort_satx (fun p cap w => slices_Sort_int_none p cap w) (fun blk off cap zs w => slices_Sort_int blk off cap zs w) (l1 := []) (l2 := []) hS) ?_; rintro _ w ⟨rfl, sg1, hsosg1, hS⟩
  replace hS := hS.n1
  refine zlz ?_
  refine zs2 ?_
  refine zlt <| zrt <| zf1 ⟨_, rfl, ?_⟩
  exact ⟨_, _, rfl, hslq1, hsosg1, hS⟩

theorem c_wr1p {v : Value} {n q : Int} {f : Int → Int} {a1 : Addr} (w0 : World) (hR : Row w0 v 1 n (ints f)) (hp1 : w0.cell? a1 = some (.int .i64 q)) (hq : 0 ≤ q ∧ q ≤ 100) :
    Calls Try.prog 124 [v, .pointer (some a1)].toArray w0 fun e w => ∃ v, e = .returned v ∧ v = B (¬ (n = q + 1 ∧ Btw f n 1073741824)) ∧ Sat w0 w [] := by
  have hn1 := hR.slh.n1
  refine zenG Try.func124 Try.ntmps124 fun w hS => ?_
  refine zsr ?_
  refine zlv xas ?_
  refine zlz ?_
  refine zlv xmv ?_
  refine zlv (xln sl_22 hR.slh) ?_
  refine zlv (xlf pl_3 hp1 hS) ?_
  refine zlv (xadd (r := q + 1)) ?_
  refine zs2 ?_
  refine zlb 9 ?_ ?_ <;> intro hc
  ·
   iterate 3 refine zlo ?_
   refine zs2 ?_
   refine zlt <| zrt <| zf1 ⟨_, rfl, ?_⟩
   exact ⟨true_B (by omega), hS⟩
  refine zlv xmv ?_
  refine zlc (xc0 cl_111) (c_between (n := n) (m := 1073741824) (f := f) w (hR.below hS.below) (by omega)) ?_; rintro _ w ⟨rfl, hS'⟩
  replace hS := hS.cmp hS'; clear hS'
  refine zs3 ?_
  refine zlt <| zrt <| zf1 ⟨_, rfl, ?_⟩
  exact ⟨B_congr (by exact ⟨fun h hh => h hh.2, fun h hh => h ⟨by omega, hh⟩⟩), hS⟩

theorem c_ixmp {v : Value} {n q : Int} {vv : Int → Value} {ln : Int → Int} {f : Int → Int → Int} {a1 : Addr} (w0 : World) (hM : MAt w0 v n vv ln f) (hp1 : w0.cell? a1 = some (.int .i64 q)) (hq : 0 ≤ q ∧ q ≤ 100) :
    Calls Try.prog 69 [v, .func (.func 124) #[] #[.pointer (some a1)]].toArray w0 fun e w => ∃ v, e = .returned v ∧ ∃ r : Int, v = .int .i64 r ∧ ((r = -1 ∧ ∀ k, 0 ≤ k → k < n → ¬ (¬ ((ln k) = q + 1 ∧ Btw (f k) (ln k) 1073741824))) ∨ (0 ≤ r ∧ r < n ∧ (¬ ((ln r) = q + 1 ∧ Btw (f r) (ln r) 1073741824)))) ∧ Sat w0 w [] := by
  have hn := hM.row.slh.n0; have hn1 := hM.row.slh.n1
  refine zenG Try.func69 Try.ntmps69 fun w hS => ?_
  refine zsr ?_
  refine zlv xas ?_
  refine zlt <| zsq <| zsr ?_
  refine zlv xmv ?_
  refine zlv (xln sl_32 hM.row.slh) ?_
  refine zlv xmv ?_
  refine zlt <| zbk <| zlp (fun mm M w => ∃ (i : Int), mm = ((n - i).toNat) ∧ (0 ≤ i) ∧ (i ≤ n) ∧ (∀ k, 0 ≤ k → k < i → ¬ (¬ ((ln k) = q + 1 ∧ Btw (f k) (ln k) 1073741824))) ∧ M = [(0, v), (1, .func (.func 124) #[] #[.pointer (some a1)]), (7, .int .i64 n), (8, .int .i64 i)] ∧ Sat w0 w []) ⟨0, rfl, (by omega), (by omega), ?_, rfl, hS⟩ ?_
  ·
   intro k h0 h1; omega
  clear hS w
  rintro mm M w ⟨i, rfl, h0, h1, hall, rfl, hS⟩
  refine zsr ?_
  refine zlv xlss ?_
  refine zlt <| zsq ?_
  refine zcif ?_ ?_ <;> intro hc
  ·
   refine zsk <| ztn <| zsq <| zbk <| zsr ?_
   refine zs2 ?_
   refine zlz ?_
   refine zs3 ?_
   refine zlv (xix (kk := i) sl_32 hM.row.slh) ?_
   refine zlv (xlr (u := (vv i)) pl_22 (hM.row.below hS.below)) ?_
   refine zlc (xcc (vs := [_]) cl_124) (c_wr1p (n := (ln i)) (q := q) (f := (f i)) w ((hM.p i (by omega) (by omega)).below hS.below) (hS.ref hp1) hq) ?_; rintro _ w ⟨rfl, hS'⟩
   replace hS := hS.cmp hS'; clear hS'
   refine zlt ?_
   refine zcif ?_ ?_ <;> intro hc
   ·
    refine zsr ?_
    refine zs2 ?_
    refine zlt <| zrt <| zbr <| ztr <| ztr <| zbr <| ztr <| zf1 ⟨_, rfl, ?_⟩
    exact ⟨i, rfl, .inr ⟨by omega, by omega, ‹¬ ((ln i) = q + 1 ∧ Btw (f i) (ln i) 1073741824)›⟩, hS⟩
   refine zsk <| zbn <| ztn <| zrg ?_
   refine zlv (xadd (r := i + 1)) ?_
   refine zlv xmv ?_
   refine zln <| zlq ⟨i + 1, rfl, (by omega), (by omega), ?_, rfl, hS⟩
   ·
    intro k h0' h1'; rcases Int.lt_or_eq_of_le (show k ≤ i by omega) with hk | hk; exact hall k h0' hk; rw [hk]; assumption
  refine zxt <| ztx <| ztx <| zbh <| ztn <| zsr ?_
  refine zlv xas ?_
  refine zlt <| zrt <| zf1 ⟨_, rfl, ?_⟩
  exact ⟨-1, rfl, .inl ⟨rfl, fun k h0 h1 => hall k h0 (by omega)⟩, hS⟩

theorem c_comp {v : Value} {n q : Int} {vv : Int → Value} {ln : Int → Int} {f : Int → Int → Int} {a1 : Addr} (w0 : World) (hM : MAt w0 v n vv ln f) (hp1 : w0.cell? a1 = some (.int .i64 q)) (hq : 0 ≤ q ∧ q ≤ 100) :
    Calls Try.prog 35 [v, .func (.func 124) #[] #[.pointer (some a1)]].toArray w0 fun e w => ∃ v, e = .returned v ∧ v = B (∃ k, 0 ≤ k ∧ k < n ∧ (¬ ((ln k) = q + 1 ∧ Btw (f k) (ln k) 1073741824))) ∧ Sat w0 w [] := by
  refine zenG Try.func35 Try.ntmps35 fun w hS => ?_
  refine zsr ?_
  refine zlv xas ?_
  refine zlz ?_
  refine zs2 ?_
  refine zlc (xc0 cl_69) (c_ixmp w (hM.below hS.below) (hS.ref hp1) hq) ?_; rintro _ w ⟨r1, rfl, hr1, hS'⟩
  replace hS := hS.cmp hS'; clear hS'
  refine zs2 ?_
  refine zlt <| zrt <| zf1 ⟨_, rfl, ?_⟩
  exact ⟨B_congr (by
   rcases hr1 with ⟨h1, h2⟩ | ⟨h1, h2, h3⟩
   · exact ⟨fun h => by omega, fun ⟨k, h4, h5, h6⟩ => absurd h6 (h2 k h4 h5)⟩
   · exact ⟨fun _ => ⟨_, h1, h2, h3⟩, fun _ => h1⟩), hS⟩

theorem c_wr1v {v : Value} {n q : Int} {f : Int → Int} {a1 : Addr} (w0 : World) (hR : Row w0 v 1 n (ints f)) (hp1 : w0.cell? a1 = some (.int .i64 q)) (hq : 0 ≤ q ∧ q ≤ 100) :
    Calls Try.prog 112 [v, .pointer (some a1)].toArray w0 fun e w => ∃ v, e = .returned v ∧ v = B (¬ (n = q ∧ Btw f n 1000000)) ∧ Sat w0 w [] := by
  have hn1 := hR.slh.n1
  refine zenG Try.func112 Try.ntmps112 fun w hS => ?_
  refine zsr ?_
  refine zlv xas ?_
  refine zlz ?_
  refine zlv xmv ?_
  refine zlv (xln sl_22 hR.slh) ?_
  refine zlv (xlf pl_3 hp1 hS) ?_
  refine zs2 ?_
  refine zlb 8 ?_ ?_ <;> intro hc
  ·
   iterate 3 refine zlo ?_
   refine zs2 ?_
   refine zlt <| zrt <| zf1 ⟨_, rfl, ?_⟩
   exact ⟨true_B (by omega), hS⟩
  refine zlv xmv ?_
  refine zlc (xc0 cl_111) (c_between (n := n) (m := 1000000) (f := f) w (hR.below hS.below) (by omega)) ?_; rintro _ w ⟨rfl, hS'⟩
  replace hS := hS.cmp hS'; clear hS'
  refine zs3 ?_
  refine zlt <| zrt <| zf1 ⟨_, rfl, ?_⟩
  exact ⟨B_congr (by exact ⟨fun h hh => h hh.2, fun h hh => h ⟨by omega, hh⟩⟩), hS⟩

theorem c_ixmv {v : Value} {n q : Int} {vv : Int → Value} {ln : Int → Int} {f : Int → Int → Int} {a1 : Addr} (w0 : World) (hM : MAt w0 v n vv ln f) (hp1 : w0.cell? a1 = some (.int .i64 q)) (hq : 0 ≤ q ∧ q ≤ 100) :
    Calls Try.prog 69 [v, .func (.func 112) #[] #[.pointer (some a1)]].toArray w0 fun e w => ∃ v, e = .returned v ∧ ∃ r : Int, v = .int .i64 r ∧ ((r = -1 ∧ ∀ k, 0 ≤ k → k < n → ¬ (¬ ((ln k) = q ∧ Btw (f k) (ln k) 1000000))) ∨ (0 ≤ r ∧ r < n ∧ (¬ ((ln r) = q ∧ Btw (f r) (ln r) 1000000)))) ∧ Sat w0 w [] := by
  have hn := hM.row.slh.n0; have hn1 := hM.row.slh.n1
  refine zenG Try.func69 Try.ntmps69 fun w hS => ?_
  refine zsr ?_
  refine zlv xas ?_
  refine zlt <| zsq <| zsr ?_
  refine zlv xmv ?_
  refine zlv (xln sl_32 hM.row.slh) ?_
  refine zlv xmv ?_
  refine zlt <| zbk <| zlp (fun mm M w => ∃ (i : Int), mm = ((n - i).toNat) ∧ (0 ≤ i) ∧ (i ≤ n) ∧ (∀ k, 0 ≤ k → k < i → ¬ (¬ ((ln k) = q ∧ Btw (f k) (ln k) 1000000))) ∧ M = [(0, v), (1, .func (.func 112) #[] #[.pointer (some a1)]), (7, .int .i64 n), (8, .int .i64 i)] ∧ Sat w0 w []) ⟨0, rfl, (by omega), (by omega), ?_, rfl, hS⟩ ?_
  ·
   intro k h0 h1; omega
  clear hS w
  rintro mm M w ⟨i, rfl, h0, h1, hall, rfl, hS⟩
  refine zsr ?_
  refine zlv xlss ?_
  refine zlt <| zsq ?_
  refine zcif ?_ ?_ <;> intro hc
  ·
   refine zsk <| ztn <| zsq <| zbk <| zsr ?_
   refine zs2 ?_
   refine zlz ?_
   refine zs3 ?_
   refine zlv (xix (kk := i) sl_32 hM.row.slh) ?_
   refine zlv (xlr (u := (vv i)) pl_22 (hM.row.below hS.below)) ?_
   refine zlc (xcc (vs := [_]) cl_112) (c_wr1v (n := (ln i)) (q := q) (f := (f i)) w ((hM.p i (by omega) (by omega)).below hS.below) (hS.ref hp1) hq) ?_; rintro _ w ⟨rfl, hS'⟩
   replace hS := hS.cmp hS'; clear hS'
   refine zlt ?_
   refine zcif ?_ ?_ <;> intro hc
   ·
    refine zsr ?_
    refine zs2 ?_
    refine zlt <| zrt <| zbr <| ztr <| ztr <| zbr <| ztr <| zf1 ⟨_, rfl, ?_⟩
    exact ⟨i, rfl, .inr ⟨by omega, by omega, ‹¬ ((ln i) = q ∧ Btw (f i) (ln i) 1000000)›⟩, hS⟩
   refine zsk <| zbn <| ztn <| zrg ?_
   refine zlv (xadd (r := i + 1)) ?_
   refine zlv xmv ?_
   refine zln <| zlq ⟨i + 1, rfl, (by omega), (by omega), ?_, rfl, hS⟩
   ·
    intro k h0' h1'; rcases Int.lt_or_eq_of_le (show k ≤ i by omega) with hk | hk; exact hall k h0' hk; rw [hk]; assumption
  refine zxt <| ztx <| ztx <| zbh <| ztn <| zsr ?_
  refine zlv xas ?_
  refine zlt <| zrt <| zf1 ⟨_, rfl, ?_⟩
  exact ⟨-1, rfl, .inl ⟨rfl, fun k h0 h1 => hall k h0 (by omega)⟩, hS⟩

theorem c_comv {v : Value} {n q : Int} {vv : Int → Value} {ln : Int → Int} {f : Int → Int → Int} {a1 : Addr} (w0 : World) (hM : MAt w0 v n vv ln f) (hp1 : w0.cell? a1 = some (.int .i64 q)) (hq : 0 ≤ q ∧ q ≤ 100) :
    Calls Try.prog 35 [v, .func (.func 112) #[] #[.pointer (some a1)]].toArray w0 fun e w => ∃ v, e = .returned v ∧ v = B (∃ k, 0 ≤ k ∧ k < n ∧ (¬ ((ln k) = q ∧ Btw (f k) (ln k) 1000000))) ∧ Sat w0 w [] := by
  refine zenG Try.func35 Try.ntmps35 fun w hS => ?_
  refine zsr ?_
  refine zlv xas ?_
  refine zlz ?_
  refine zs2 ?_
  refine zlc (xc0 cl_69) (c_ixmv w (hM.below hS.below) (hS.ref hp1) hq) ?_; rintro _ w ⟨r1, rfl, hr1, hS'⟩
  replace hS := hS.cmp hS'; clear hS'
  refine zs2 ?_
  refine zlt <| zrt <| zf1 ⟨_, rfl, ?_⟩
  exact ⟨B_congr (by
   rcases hr1 with ⟨h1, h2⟩ | ⟨h1, h2, h3⟩
   · exact ⟨fun h => by omega, fun ⟨k, h4, h5, h6⟩ => absurd h6 (h2 k h4 h5)⟩
   · exact ⟨fun _ => ⟨_, h1, h2, h3⟩, fun _ => h1⟩), hS⟩

set_option maxRecDepth 20000 in
theorem c_proper {vB vF vC : Value} {vv : Int → Value} {t : Tb} (w0 : World) (hT : TAt w0 vB vF vC vv t) :
    Calls Try.prog 114 [.agg #[.int .i64 t.vars, .int .i64 t.den, vB, vF, vC]].toArray w0 fun e w => ∃ v, e = .returned v ∧ v = B (TPrp t) ∧ Sat w0 w [] := by
  have hn := hT.F.slh.n0; have hn1 := hT.F.slh.n1; have hb := hT.B.slh.n0; have hb1 := hT.B.slh.n1; have hc0 := hT.C.row.slh.n0; have hc1 := hT.C.row.slh.n1
  refine zenG Try.func114 Try.ntmps114 fun w hS => ?_
  refine zsr ?_
  refine zla (xbx (cs := [_, _, _, _, _]) hS) ?_; rintro _ w ⟨g1, rfl, hS⟩
  replace hS := hS.n1
  refine zlv xas ?_
  refine zlt <| zsq ?_
  refine zdst [0] [0] 7 mx_ hS ?_; clear hS; intro w hS
  refine zdv 0 (fun _ => (xfb 3 fd_108_3)) ?_
  refine zdla 1 (fun w hS => (xlb 0 pl_22 hS)) ?_
  refine zdv 2 (fun _ => (xln sl_22 hT.F.slh)) ?_
  refine zdv 3 (fun _ => (xfb 2 fd_108_2)) ?_
  refine zdla 4 (fun w hS => (xlb 0 pl_22 hS)) ?_
  refine zdv 5 (fun _ => (xln sl_22 hT.B.slh)) ?_
  refine zda 6 (xal (cs := [_]) el_3 hS) ?_; rintro _ w ⟨g2, rfl, hS⟩
  replace hS := hS.n2
  refine ⟨⟨fun _ => hS.pk [0], hS.pk [0]⟩, ?_⟩
  refine zde 7 (xsb 1 pl_3 hS) ?_; clear hS; rintro w hS
  replace hS := hS.n2
  refine ⟨⟨fun h => absurd h (by decide), hS.pk [0]⟩, ?_⟩
  refine zdv 8 (fun _ => xas) ?_
  refine zdd <| ztn <| zsq <| zsr ?_
  refine zlv (xlb 1 pl_3 hS) ?_
  refine zs2 ?_
  refine zlb 16 ?_ ?_ <;> intro hc
  ·
   iterate 2 refine zlo ?_
   refine zs2 ?_
   iterate 2 refine zlo ?_
   refine zs2 ?_
   iterate 4 refine zlo ?_
   refine zs2 ?_
   iterate 3 refine zlo ?_
   refine zs2 ?_
   iterate 3 refine zlo ?_
   refine zs2 ?_
   iterate 6 refine zlo ?_
   refine zlv xpt ?_
   refine zlt <| zct <| zsr ?_
   refine zlv xas ?_
   refine zlt <| zrt <| ztr <| zf1 ⟨_, rfl, ?_⟩
   exact ⟨false_B (by intro hp; have b1 := hp.n1; have b2 := hp.n2; have b3 := hp.m2; have b4 := hp.v; have b5 := hp.d1; have b6 := hp.d2; have b7 := hp.c; first | omega | (have hq1 := (perm_sorted (by omega) hsosgq2).2 (hp.perm.congr fun k k0 k1 => (catN2 t.nf t.nb t.F t.B k0).symm) i (by omega) (by omega); omega)), hS.nl⟩
  refine zlv (xlb 1 pl_3 hS) ?_
  refine zs3 ?_
  refine zlb 20 ?_ ?_ <;> intro hc
  ·
   iterate 2 refine zlo ?_
   refine zs2 ?_
   iterate 4 refine zlo ?_
   refine zs2 ?_
   iterate 3 refine zlo ?_
   refine zs2 ?_
   iterate 3 refine zlo ?_
   refine zs2 ?_
   iterate 6 refine zlo ?_
   refine zlv xpt ?_
   refine zlt <| zct <| zsr ?_
   refine zlv xas ?_
   refine zlt <| zrt <| ztr <| zf1 ⟨_, rfl, ?_⟩
   exact ⟨false_B (by intro hp; have b1 := hp.n1; have b2 := hp.n2; have b3 := hp.m2; have b4 := hp.v; have b5 := hp.d1; have b6 := hp.d2; have b7 := hp.c; first | omega | (have hq1 := (perm_sorted (by omega) hsosgq2).2 (hp.perm.congr fun k k0 k1 => (catN2 t.nf t.nb t.F t.B k0).symm) i (by omega) (by omega); omega)), hS.nl⟩
  refine zs4 ?_
  refine zlb 24 ?_ ?_ <;> intro hc
  ·
   iterate 4 refine zlo ?_
   refine zs2 ?_
   iterate 3 refine zlo ?_
   refine zs2 ?_
   iterate 3 refine zlo ?_
   refine zs2 ?_
   iterate 6 refine zlo ?_
   refine zlv xpt ?_
   refine zlt <| zct <| zsr ?_
   refine zlv xas ?_
   refine zlt <| zrt <| ztr <| zf1 ⟨_, rfl, ?_⟩
   exact ⟨false_B (by intro hp; have b1 := hp.n1; have b2 := hp.n2; have b3 := hp.m2; have b4 := hp.v; have b5 := hp.d1; have b6 := hp.d2; have b7 := hp.c; first | omega | (have hq1 := (perm_sorted (by omega) hsosgq2).2 (hp.perm.congr fun k k0 k1 => (catN2 t.nf t.nb t.F t.B k0).symm) i (by omega) (by omega); omega)), hS.nl⟩
  refine zlv (xfb 0 fd_108_0) ?_
  refine zlv (xlb 0 pl_3 hS) ?_
  refine zlv (xlb 1 pl_3 hS) ?_
  refine zs3 ?_
  refine zlb 30 ?_ ?_ <;> intro hc
  ·
   iterate 3 refine zlo ?_
   refine zs2 ?_
   iterate 3 refine zlo ?_
   refine zs2 ?_
   iterate 6 refine zlo ?_
   refine zlv xpt ?_
   refine zlt <| zct <| zsr ?_
   refine zlv xas ?_
   refine zlt <| zrt <| ztr <| zf1 ⟨_, rfl, ?_⟩
   exact ⟨false_B (by intro hp; have b1 := hp.n1; have b2 := hp.n2; have b3 := hp.m2; have b4 := hp.v; have b5 := hp.d1; have b6 := hp.d2; have b7 := hp.c; first | omega | (have hq1 := (perm_sorted (by omega) hsosgq2).2 (hp.perm.congr fun k k0 k1 => (catN2 t.nf t.nb t.F t.B k0).symm) i (by omega) (by omega); omega)), hS.nl⟩
  refine zlv (xfb 1 fd_108_1) ?_
  refine zlv (xlb 0 pl_3 hS) ?_
  refine zs3 ?_
  refine zlb 35 ?_ ?_ <;> intro hc
  ·
   iterate 3 refine zlo ?_
   refine zs2 ?_
   iterate 6 refine zlo ?_
   refine zlv xpt ?_
   refine zlt <| zct <| zsr ?_
   refine zlv xas ?_
   refine zlt <| zrt <| ztr <| zf1 ⟨_, rfl, ?_⟩
   exact ⟨false_B (by intro hp; have b1 := hp.n1; have b2 := hp.n2; have b3 := hp.m2; have b4 := hp.v; have b5 := hp.d1; have b6 := hp.d2; have b7 := hp.c; first | omega | (have hq1 := (perm_sorted (by omega) hsosgq2).2 (hp.perm.congr fun k k0 k1 => (catN2 t.nf t.nb t.F t.B k0).symm) i (by omega) (by omega); omega)), hS.nl⟩
  refine zlv (xfb 1 fd_108_1) ?_
  refine zlv (xlb 0 pl_3 hS) ?_
  refine zs3 ?_
  refine zlb 40 ?_ ?_ <;> intro hc
  ·
   iterate 6 refine zlo ?_
   refine zlv xpt ?_
   refine zlt <| zct <| zsr ?_
   refine zlv xas ?_
   refine zlt <| zrt <| ztr <| zf1 ⟨_, rfl, ?_⟩
   exact ⟨false_B (by intro hp; have b1 := hp.n1; have b2 := hp.n2; have b3 := hp.m2; have b4 := hp.v; have b5 := hp.d1; have b6 := hp.d2; have b7 := hp.c; first | omega | (have hq1 := (perm_sorted (by omega) hsosgq2).2 (hp.perm.congr fun k k0 k1 => (catN2 t.nf t.nb t.F t.B k0).symm) i (by omega) (by omega); omega)), hS.nl⟩
  refine zlv (xfb 4 fd_108_4) ?_
  refine zlv (xlb 0 pl_32 hS) ?_
  refine zlv (xln sl_32 hT.C.row.slh) ?_
  refine zlv xmv ?_
  refine zlv (xadd (r := t.nb + 1)) ?_
  refine zs2 ?_
  refine zlt ?_
  refine zcif ?_ ?_ <;> intro hc
  ·
   refine zsr ?_
   refine zlv xas ?_
   refine zlt <| zrt <| ztr <| zf1 ⟨_, rfl, ?_⟩
   exact ⟨false_B (by intro hp; have b1 := hp.n1; have b2 := hp.n2; have b3 := hp.m2; have b4 := hp.v; have b5 := hp.d1; have b6 := hp.d2; have b7 := hp.c; first | omega | (have hq1 := (perm_sorted (by omega) hsosgq2).2 (hp.perm.congr fun k k0 k1 => (catN2 t.nf t.nb t.F t.B k0).symm) i (by omega) (by omega); omega)), hS.nl⟩
  refine zsk <| ztn <| zsr ?_
  refine zlv (xfb 3 fd_108_3) ?_
  refine zlv (xlb 0 pl_22 hS) ?_
  refine zlv (xfb 2 fd_108_2) ?_
  refine zlv (xlb 0 pl_22 hS) ?_
  refine zla (xli (n := 2) (len := 2) (pv := [(0, vF), (1, vB)]) (cs := [vF, vB]) (c := (pair2 vF vB)) sl_32 el_22 hS (hf := by obtain ⟨_, _, _, _, rfl, _⟩ := hT.F.slh; obtain ⟨_, _, _, _, rfl, _⟩ := hT.B.slh; kernel_rfl)) ?_; rintro v1 w ⟨hS, hv1⟩
  replace hS := hS.n3
  have hna := nat2 (w := w) (a := vF) (b := vB) (n := t.nf) (m := t.nb) (f := t.F) (g := t.B) (hS.rowN 2 rfl) (hT.F.below hS.below) (hT.B.below hS.below)
  have htt : ∀ k : Int, 0 ≤ k → k ≤ 2 → tot (pair2 t.nf t.nb) k.toNat ≤ 100000 := fun k k0 k1 => by
    have : k = 0 ∨ k = 1 ∨ k = 2 := by omega
    rcases this with rfl | rfl | rfl
    · simp [tot]
    · simp [tot, pair2]; omega
    · have e2 := tot2 t.nf t.nb; rw [show (2 : Int).toNat = 2 from rfl, e2]; omega
  refine zlc (xc0 cl_123) (c_concat w hna htt) ?_; rintro vq1 w ⟨_, rfl, hslq1, hS'⟩
  rw [show (2 : Int).toNat = 2 from rfl, tot2] at hslq1 hS'
  replace hS : Sat w0 w [.blk g1 [.int .i64 t.vars, .int .i64 t.den, vB, vF, vC], .blk g2 [.int .i64 t.nf], .own v1 1 22 2 (pair2 vF vB), .own vq1 1 3 (t.nf + t.nb) (ints (catN (pair2 t.nf t.nb) (pair2 t.F t.B) 2))] := hS.comp hS'
  clear hS'
  refine zlc (xc0 cl_122) (c_values (n := (t.nf + t.nb)) w hslq1) ?_; rintro _ w ⟨gv1, rfl, hS'⟩
  replace hS : Sat w0 w [.blk g1 [.int .i64 t.vars, .int .i64 t.den, vB, vF, vC], .blk g2 [.int .i64 t.nf], .own v1 1 22 2 (pair2 vF vB), .own vq1 1 3 (t.nf + t.nb) (ints (catN (pair2 t.nf t.nb) (pair2 t.F t.B) 2)), .blk gv1 [vq1]] := hS.comp hS'; clear hS'
  refine zlc (xc0 cl_121) (c_sorted (n := (t.nf + t.nb)) (f := (catN (pair2 t.nf t.nb) (pair2 t.F t.B) 2)) w (hS.cellN 4 rfl rfl) (hS.holds _ (List.mem_of_getElem? (i := 3) rfl)) (by omega)) ?_; rintro vq2 w ⟨_, sgq2, rfl, hslq2, hsosgq2, hS'⟩
  replace hS : Sat w0 w [.blk g1 [.int .i64 t.vars, .int .i64 t.den, vB, vF, vC], .blk g2 [.int .i64 t.nf], .own v1 1 22 2 (pair2 vF vB), .own vq1 1 3 (t.nf + t.nb) (ints (catN (pair2 t.nf t.nb) (pair2 t.F t.B) 2)), .blk gv1 [vq1], .own vq2 1 3 (t.nf + t.nb) (ints sgq2)] := hS.comp hS'; clear hS'
  refine zlv xas ?_
  refine zlt <| zsq <| zsr ?_
  refine zlv xmv ?_
  refine zlv (xln sl_22 hslq2) ?_
  refine zlv xmv ?_
  refine zlt <| zbk <| zlp (fun mm M w => ∃ (i : Int), mm = ((t.nf + t.nb - i).toNat) ∧ (0 ≤ i) ∧ (i ≤ t.nf + t.nb) ∧ (∀ k, 0 ≤ k → k < i → sgq2 k = k) ∧ M = [(1, .pointer (some ⟨g1, 0, none⟩)), (3, .pointer (some ⟨g2, 0, none⟩)), (56, vq2), (57, .int .i64 (t.nf + t.nb)), (58, .int .i64 i)] ∧ Sat w0 w [.blk g1 [.int .i64 t.vars, .int .i64 t.den, vB, vF, vC], .blk g2 [.int .i64 t.nf], .own v1 1 22 2 (pair2 vF vB), .own vq1 1 3 (t.nf + t.nb) (ints (catN (pair2 t.nf t.nb) (pair2 t.F t.B) 2)), .blk gv1 [vq1], .own vq2 1 3 (t.nf + t.nb) (ints sgq2)]) ⟨0, rfl, (by omega), (by omega), ?_, rfl, hS⟩ ?_
  ·
   intro k h0 h1; omega
  clear hS w
  rintro mm M w ⟨i, rfl, h0, h1, hall, rfl, hS⟩
  refine zsr ?_
  refine zlv xlss ?_
  refine zlt <| zsq ?_
  refine zcif ?_ ?_ <;> intro hc
  ·
   refine zsk <| ztn <| zsq <| zbk <| zsr ?_
   refine zlv xmv ?_
   refine zlv (xix (kk := i) sl_22 hslq2) ?_
   refine zlv (xlr (u := .int .i64 (sgq2 i)) pl_3 (hS.rowN 5 rfl)) ?_
   refine zs2 ?_
   refine zlz ?_
   refine zs3 ?_
   refine zlt ?_
   refine zcif ?_ ?_ <;> intro hc
   ·
    refine zsr ?_
    refine zlv xas ?_
    refine zlt <| zrt <| zbr <| ztr <| ztr <| zbr <| ztr <| zf1 ⟨_, rfl, ?_⟩
    exact ⟨false_B (by intro hp; have b1 := hp.n1; have b2 := hp.n2; have b3 := hp.m2; have b4 := hp.v; have b5 := hp.d1; have b6 := hp.d2; have b7 := hp.c; first | omega | (have hq1 := (perm_sorted (by omega) hsosgq2).2 (hp.perm.congr fun k k0 k1 => (catN2 t.nf t.nb t.F t.B k0).symm) i (by omega) (by omega); omega)), hS.nl⟩
   refine zsk <| zbn <| ztn <| zrg ?_
   refine zlv (xadd (r := i + 1)) ?_
   refine zlv xmv ?_
   refine zln <| zlq ⟨i + 1, rfl, (by omega), (by omega), ?_, rfl, hS⟩
   ·
    intro k h0' h1'; rcases Int.lt_or_eq_of_le (show k ≤ i by omega) with hk | hk; exact hall k h0' hk; rw [hk]; omega
  refine zxt <| ztx <| ztx <| zbh <| ztn <| zsr ?_
  refine zlv (xfb 4 fd_108_4) ?_
  refine zlv (xlb 0 pl_32 hS) ?_
  refine zlv xmf ?_
  refine zlc (xc0 cl_35) (c_comp (n := t.nc) (q := t.nf) (vv := vv) (ln := t.ln) (f := t.C) w (hT.C.below hS.below) (hS.cellN 1 rfl rfl) (by omega)) ?_; rintro _ w ⟨rfl, hS'⟩
  replace hS := hS.cmp hS'; clear hS'
  refine zs2 ?_
  refine zlt <| zrt <| zf1 ⟨_, rfl, ?_⟩
  refine ⟨B_congr ⟨fun hx => ?_, fun hp hx => ?_⟩, hS.nl⟩
  · refine ⟨by omega, by omega, by omega, by omega, by omega, by omega, by omega, ((perm_sorted (by omega) hsosgq2).1 fun k k0 k1 => hall k k0 (by omega)).congr fun k k0 k1 => catN2 t.nf t.nb t.F t.B k0, fun k k0 k1 => ?_⟩
    have hy := Classical.not_not.1 fun hh => hx ⟨k, k0, k1, hh⟩
    exact ⟨hy.1, hy.2⟩
  · obtain ⟨k, k0, k1, hh⟩ := hx
    have hr := hp.rows k k0 k1
    exact hh ⟨hr.1, hr.2⟩

set_option maxRecDepth 20000 in
theorem c_cloned {v : Value} {n : Int} {vv : Int → Value} {ln : Int → Int} {f : Int → Int → Int} (w0 : World) (hM : MAt w0 v n vv ln f) (hn2 : n ≤ 1000) (hll : ∀ k, 0 ≤ k → k < n → ln k ≤ 1000) :
    Calls Try.prog 115 [v].toArray w0 fun e w => ∃ v, e = .returned v ∧ ∃ vo vw, v = vo ∧ Slh vo n ∧ Sat w0 w [.own vo 1 22 n vw, .sem (Frame.rows 3 n vw ln f)] := by
  have hn := hM.row.slh.n0; have hn1 := hM.row.slh.n1
  refine zenG Try.func115 Try.ntmps115 fun w hS => ?_
  refine zsr ?_
  refine zlv xas ?_
  refine zlz ?_
  refine zlv xmv ?_
  refine zlv (xln sl_32 hM.row.slh) ?_
  refine zla (xmk sl_32 el_22 hS) ?_; rintro v1 w ⟨hS, hv1⟩
  replace hS := hS.n1
  refine zlv xas ?_
  refine zlt <| zsq <| zsr ?_
  refine zlv xmv ?_
  refine zlv (xln sl_32 hM.row.slh) ?_
  refine zlv xmv ?_
  refine zlt <| zbk ?_
  replace hS := hS.addrows 3 (fun _ => Value.slice none 0 0) ln f
  replace hS := hS.n2
  refine zlp (fun mm M w => ∃ (c : Int → Value) (i : Int), mm = ((n - i).toNat) ∧ (0 ≤ i) ∧ (i ≤ n) ∧ M = [(2, .slice none 0 0), (3, v1), (9, v), (10, .int .i64 n), (11, .int .i64 i)] ∧ Sat w0 w [.own v1 1 22 n c, .sem (Frame.rows 3 i c ln f)]) ⟨(fun _ => Value.slice none 0 0), 0, rfl, (by omega), (by omega), rfl, hS⟩ ?_
  clear hS w
  rintro mm M w ⟨c, i, rfl, h0, h1, rfl, hS⟩
  have hrs1 := fun k (k0 : 0 ≤ k) (k1 : k < i) => hS.slhIn 1 rfl k0 k1
  refine zsr ?_
  refine zlv xlss ?_
  refine zlt <| zsq ?_
  refine zcif ?_ ?_ <;> intro hc
  ·
   refine zsk <| ztn <| zsq <| zbk <| zsr ?_
   refine zlv xmv ?_
   refine zlv (xix (kk := i) sl_32 hM.row.slh) ?_
   refine zlv (xlr (u := (vv i)) pl_22 (hM.row.below hS.below)) ?_
   have hli := hll i h0 (by omega); have hl0 := (hM.p i h0 (by omega)).slh.n0
   refine zs2 ?_
   refine zlz ?_
   refine zs3 ?_
   refine zlv (xln sl_22 (hM.p i (by omega) (by omega)).slh) ?_
   refine zla (xmk sl_22 el_3 hS) ?_; rintro v2 w ⟨hS, hv2⟩
   replace hS := hS.n3
   refine zlv (xix (kk := i) sl_32 hv1) ?_
   refine zle (xso 0 pl_22 hS rfl (hv := hv2.one)) ?_; clear hS; rintro w hS
   replace hS := hS.n3
   refine zlt <| zrg ?_
   refine zs2 ?_
   refine zlv (xix (kk := i) sl_32 hv1) ?_
   refine zlv (xlr (u := v2) pl_22 (hS.rowN 0 rfl) (e := (gu_self _ _ _))) ?_
   refine zlv xmv ?_
   refine zlar rfl rfl rfl (ex_copy 2 rfl sl_22 rfl rfl hS rfl ((hM.p i (by omega) (by omega)).below hS.below) (fun _ _ _ => rfl)) ?_; rintro _ w ⟨rfl, hS⟩
   replace hS := hS.n3
   replace hS := Sat.merge (l1 := [.own v1 1 22 n (upd c i (v2))]) (l2 := []) (l3 := []) hS (by omega)
   replace hS := hS.rerows (vv' := upd c i (v2)) (ln' := ln) (f' := f) 1 rfl (fun k k0 k1 => by
     by_cases e : k < i
     · rw [gsn_lt e, gsn_lt e, gsn_lt e]; exact ⟨(gu_ne (by omega)).symm, rfl, fun _ _ _ => rfl⟩
     · obtain rfl : i = k := (by omega); rw [gsn_self, gsn_self, gsn_self]; exact ⟨(gu_self _ _ _).symm, rfl, fun _ _ _ => rfl⟩)
   replace hS := hS.n2
   refine zln <| zbn <| ztn <| zrg ?_
   refine zlv (xadd (r := i + 1)) ?_
   refine zlv xmv ?_
   refine zln <| zlq ⟨upd c i (v2), i + 1, rfl, (by omega), (by omega), rfl, hS⟩
  refine zxt <| ztx <| ztx <| zbh <| ztn <| zsr ?_
  refine zs2 ?_
  refine zlt <| zrt <| zf1 ⟨_, rfl, ?_⟩
  obtain rfl : i = n := by omega
  exact ⟨_, _, rfl, hv1, hS⟩

set_option maxRecDepth 20000 in
theorem c_next {vB vF vC : Value} {vv : Int → Value} {t : Tb} (w0 : World) (hT : TAt w0 vB vF vC vv t) :
    Calls Try.prog 91 [.agg #[.int .i64 t.vars, .int .i64 t.den, vB, vF, vC]].toArray w0 fun e w => ∃ v, e = .returned v ∧ ∃ r c d e, v = .tuple #[.int .i64 r, .int .i64 c, .bool d, .int .i64 e] ∧ NextR t r c d e ∧ Sat w0 w [] := by
  have hn := hT.F.slh.n0; have hn1 := hT.F.slh.n1; have hb := hT.B.slh.n0; have hb1 := hT.B.slh.n1; have hc0 := hT.C.row.slh.n0; have hc1 := hT.C.row.slh.n1
  refine zenG Try.func91 Try.ntmps91 fun w hS => ?_
  refine zsr ?_
  refine zla (xbx (cs := [_, _, _, _, _]) hS) ?_; rintro _ w ⟨g1, rfl, hS⟩
  replace hS := hS.n1
  refine zs4 ?_
  refine zlt <| zsq <| zsr ?_
  refine zlv (xls 0 st_108 hS) ?_
  refine zlc (xc0 cl_114) (c_proper (t := t) w (hT.below hS.below)) ?_; rintro _ w ⟨rfl, hS'⟩
  replace hS := hS.cmp hS'; clear hS'
  refine zs2 ?_
  refine zlb 17 ?_ ?_ <;> intro hc
  ·
   iterate 7 refine zlo ?_
   refine zlv xpt ?_
   refine zlt <| zct <| zsr ?_
   refine zs4 ?_
   refine zlt <| zrt <| ztr <| zf4 ⟨_, rfl, ?_⟩
   refine ⟨_, _, _, _, rfl, .inl ⟨?_, rfl, rfl, rfl, rfl⟩, hS.nl⟩
   first | exact fun hh => absurd hh.1 ‹_› | (rintro ⟨_, hco⟩; obtain ⟨k, k0, k1, k2⟩ := hex1; have := hco (k + 1) (by omega) (by omega); omega)
  refine zlv (xfb 4 fd_108_4) ?_
  have hp := (Classical.not_not.1 ‹¬ ¬ (TPrp t)›)
  have b1 := hp.n1
  have b2 := hp.n2
  have b3 := hp.m2
  have b4 := hp.v
  have b5 := hp.d1
  have b6 := hp.d2
  have b7 := hp.c
  have hl0 := hp.len (i := 0) (by omega) (by omega)
  refine zlv (xlb 0 pl_32 hS) ?_
  refine zlv (xix (kk := 0) sl_32 hT.C.row.slh) ?_
  refine zlv (xlr (u := (vv 0)) pl_22 (hT.C.row.below hS.below)) ?_
  refine zlvr rfl rfl rfl (ex_slice_lo (q := 1) rfl sl_22 rfl rfl rfl (hT.C.p 0 (by omega) (by omega)).slh rfl (by omega) (by omega)) ?_
  refine zlc (xc0 cl_113) (c_min (n := ((t.ln 0) - 1)) (f := (fun k => (t.C 0) (k + 1))) w ((suf_of (q := 1) (hT.C.p 0 (by omega) (by omega)).slh (hT.C.room 0 (by omega) (by omega)) (by omega)).row (by omega) ((hT.C.p 0 (by omega) (by omega)).below hS.below)) (by omega)) ?_; rintro _ w ⟨x1, rfl, hex1, hax1, hS'⟩
  replace hS := hS.cmp hS'; clear hS'
  refine zs2 ?_
  refine zlt ?_
  refine zcif ?_ ?_ <;> intro hc
  ·
   refine zsr ?_
   refine zs4 ?_
   refine zlt <| zrt <| ztr <| zf4 ⟨_, rfl, ?_⟩
   refine ⟨_, _, _, _, rfl, .inl ⟨?_, rfl, rfl, rfl, rfl⟩, hS.nl⟩
   first | exact fun hh => absurd hh.1 ‹_› | (rintro ⟨_, hco⟩; obtain ⟨k, k0, k1, k2⟩ := hex1; have := hco (k + 1) (by omega) (by omega); omega)
  refine zsk <| ztn <| zsr ?_
  refine zlv xas ?_
  refine zlt <| zsq <| zsr ?_
  refine zlv (xfb 2 fd_108_2) ?_
  refine zlv (xlb 0 pl_22 hS) ?_
  refine zlv (xln sl_22 hT.B.slh) ?_
  refine zlv xmv ?_
  refine zlt <| zbk <| zlp (fun mm M w => ∃ (r : Int) (i : Int), mm = ((t.nb - i).toNat) ∧ (0 ≤ i) ∧ (i ≤ t.nb) ∧ (r = leav t i.toNat) ∧ M = [(1, .pointer (some ⟨g1, 0, none⟩)), (2, .int .i64 r), (3, .int .i64 0), (4, .bool false), (5, .int .i64 0), (27, vB), (28, .int .i64 t.nb), (29, .int .i64 i)] ∧ Sat w0 w [.blk g1 [.int .i64 t.vars, .int .i64 t.den, vB, vF, vC]]) ⟨(-1), 0, rfl, (by omega), (by omega), ?_, rfl, hS⟩ ?_
  ·
   rfl
  clear hS w
  rintro mm M w ⟨r, i, rfl, h0, h1, hr, rfl, hS⟩
  have hrr := leav_rng t i.toNat; rw [← hr] at hrr
  refine zsr ?_
  refine zlv xlss ?_
  refine zlt <| zsq ?_
  refine zcif ?_ ?_ <;> intro hc
  ·
   refine zsk <| ztn <| zsq <| zbk <| zsr ?_
   refine zlv xmv ?_
   refine zlv (xix (kk := i) sl_22 hT.B.slh) ?_
   refine zlv (xlr (u := .int .i64 (t.B i)) pl_3 (hT.B.below hS.below)) ?_
   refine zs2 ?_
   refine zlz ?_
   refine zlv (xfb 4 fd_108_4) ?_
   refine zlv (xlb 0 pl_32 hS) ?_
   refine zlv xmv ?_
   refine zlv (xadd (r := i + 1)) ?_
   refine zlv (xix (kk := i + 1) sl_32 hT.C.row.slh) ?_
   refine zlv (xlr (u := (vv (i + 1))) pl_22 (hT.C.row.below hS.below)) ?_
   have hlen := hp.len (i := i + 1) (by omega) (by omega)
   refine zlv (xix (kk := 0) sl_22 (hT.C.p (i + 1) (by omega) (by omega)).slh) ?_
   refine zlv (xlr (u := .int .i64 ((t.C (i + 1)) 0)) pl_3 ((hT.C.p (i + 1) (by omega) (by omega)).below hS.below)) ?_
   refine zs2 ?_
   refine zlb 43 ?_ ?_ <;> intro hc
   ·
    refine zs3 ?_
    have hrr := leav_rng t i.toNat; rw [← hr] at hrr
    refine zlb 46 ?_ ?_ <;> intro hc
    ·
     iterate 7 refine zlo ?_
     refine zs2 ?_
     refine zlt <| zct <| zrg ?_
     refine zs2 ?_
     refine zln <| zbn <| ztn <| zrg ?_
     refine zlv (xadd (r := i + 1)) ?_
     refine zlv xmv ?_
     refine zln <| zlq ⟨i, i + 1, rfl, (by omega), (by omega), ?_, rfl, hS⟩
     ·
      rw [leav_next t h0, ← hr]; split <;> omega
    refine zlv xmv ?_
    refine zlv (xfb 2 fd_108_2) ?_
    refine zlv (xlb 0 pl_22 hS) ?_
    refine zlv xmv ?_
    refine zlv (xix (kk := r) sl_22 hT.B.slh) ?_
    refine zlv (xlr (u := .int .i64 (t.B r)) pl_3 (hT.B.below hS.below)) ?_
    refine zs3 ?_
    refine zlt ?_
    refine zcif ?_ ?_ <;> intro hc
    ·
     refine zrg ?_
     refine zs2 ?_
     refine zln <| zbn <| ztn <| zrg ?_
     refine zlv (xadd (r := i + 1)) ?_
     refine zlv xmv ?_
     refine zln <| zlq ⟨i, i + 1, rfl, (by omega), (by omega), ?_, rfl, hS⟩
     ·
      rw [leav_next t h0, ← hr]; split <;> omega
    refine zsk <| zbn <| ztn <| zrg ?_
    refine zlv (xadd (r := i + 1)) ?_
    refine zlv xmv ?_
    refine zln <| zlq ⟨r, i + 1, rfl, (by omega), (by omega), ?_, rfl, hS⟩
    ·
     rw [leav_next t h0, ← hr]; split <;> omega
   iterate 11 refine zlo ?_
   refine zlv xpf ?_
   refine zlt <| zcf <| zsk <| zbn <| ztn <| zrg ?_
   refine zlv (xadd (r := i + 1)) ?_
   refine zlv xmv ?_
   refine zln <| zlq ⟨r, i + 1, rfl, (by omega), (by omega), ?_, rfl, hS⟩
   ·
    rw [leav_next t h0, ← hr]; split <;> omega
  refine zxt <| ztx <| ztx <| zbh <| ztn <| zsq <| zsr ?_
  refine zs2 ?_
  refine zlt ?_
  refine zcif ?_ ?_ <;> intro hc
  ·
   refine zsr ?_
   refine zs4 ?_
   refine zlt <| zrt <| ztr <| zf4 ⟨_, rfl, ?_⟩
   obtain rfl : i = t.nb := by omega
   exact ⟨_, _, _, _, rfl, .inr (.inl ⟨hp, (fun j j0 j1 => by have := hax1 (j - 1) (by omega) (by omega); rw [show j - 1 + 1 = j by omega] at this; omega), by omega, rfl, rfl, rfl, rfl⟩), hS.nl⟩
  refine zsk <| ztn <| zsr ?_
  refine zlv xas ?_
  refine zlt <| zsq ?_
  refine zdst [0] [0] 1000 mx_ hS ?_; clear hS; intro w hS
  refine zdv 0 (fun _ => (xfb 4 fd_108_4)) ?_
  have hin : i = t.nb := by omega
  have hrr := leav_rng t i.toNat; rw [← hr] at hrr; have hlr := hp.len (i := r + 1) (by omega) (by omega)
  refine zdla 1 (fun w hS => (xlb 0 pl_32 hS)) ?_
  refine zdv 2 (fun _ => (xix (kk := 0) sl_32 hT.C.row.slh)) ?_
  refine zdla 3 (fun w hS => (xlr (u := (vv 0)) pl_22 (hT.C.row.below hS.below))) ?_
  refine zdvr 4 rfl rfl rfl rfl (by kernel_rfl) rfl (fun w => (ex_slice_lo (q := 1) rfl sl_22 rfl rfl rfl (hT.C.p 0 (by omega) (by omega)).slh rfl (by omega) (by omega))) ?_
  refine zdv 5 (fun _ => (xfb 4 fd_108_4)) ?_
  refine zdla 6 (fun w hS => (xlb 0 pl_32 hS)) ?_
  refine zdv 7 (fun _ => xmv) ?_
  refine zdv 8 (fun _ => (xadd (r := r + 1))) ?_
  refine zdv 9 (fun _ => (xix (kk := r + 1) sl_32 hT.C.row.slh)) ?_
  refine zdla 10 (fun w hS => (xlr (u := (vv (r + 1))) pl_22 (hT.C.row.below hS.below))) ?_
  refine zdvr 11 rfl rfl rfl rfl (by kernel_rfl) rfl (fun w => (ex_slice_lo (q := 1) rfl sl_22 rfl rfl rfl (hT.C.p (r + 1) (by omega) (by omega)).slh rfl (by omega) (by omega))) ?_
  refine zdv 12 (fun _ => xas) ?_
  refine zdv 13 (fun _ => xas) ?_
  refine zdd <| ztn <| zsq <| zsr ?_
  refine zlv xmv ?_
  refine zlv (xln sl_22 (suf_of (q := 1) (hT.C.p (r + 1) (by omega) (by omega)).slh (hT.C.room (r + 1) (by omega) (by omega)) (by omega)).slh) ?_
  refine zlv xmv ?_
  refine zlt <| zbk <| zlp (fun mm M w => ∃ (c : Int) (j : Int), mm = ((t.nf - j).toNat) ∧ (0 ≤ j) ∧ (j ≤ t.nf) ∧ (c = entr t r j.toNat) ∧ M = [(1, .pointer (some ⟨g1, 0, none⟩)), (2, .int .i64 r), (3, .int .i64 c), (4, .bool false), (5, .int .i64 0), (8, (sufV (vv 0) 1)), (9, (sufV (vv (r + 1)) 1)), (72, (sufV (vv (r + 1)) 1)), (73, .int .i64 ((t.ln (r + 1)) - 1)), (74, .int .i64 j)] ∧ Sat w0 w [.blk g1 [.int .i64 t.vars, .int .i64 t.den, vB, vF, vC]]) ⟨(-1), 0, rfl, (by omega), (by omega), ?_, rfl, hS⟩ ?_
  ·
   rfl
  clear hS w
  rintro mm M w ⟨c, j, rfl, j0, j1, hcc, rfl, hS⟩
  have hcr := entr_rng t r j.toNat; rw [← hcc] at hcr
  refine zsr ?_
  refine zlv xlss ?_
  refine zlt <| zsq ?_
  refine zcif ?_ ?_ <;> intro hc
  ·
   refine zsk <| ztn <| zsq <| zbk <| zsr ?_
   refine zlv xmv ?_
   refine zlv (xix (kk := j) sl_22 (suf_of (q := 1) (hT.C.p (r + 1) (by omega) (by omega)).slh (hT.C.room (r + 1) (by omega) (by omega)) (by omega)).slh) ?_
   refine zlv (xlr (u := .int .i64 ((t.C (r + 1)) (j + 1))) pl_3 ((suf_of (q := 1) (hT.C.p (r + 1) (by omega) (by omega)).slh (hT.C.room (r + 1) (by omega) (by omega)) (by omega)).row (by omega) ((hT.C.p (r + 1) (by omega) (by omega)).below hS.below))) ?_
   refine zs2 ?_
   refine zlt <| zsq <| zsr ?_
   refine zs2 ?_
   refine zlt ?_
   refine zcif ?_ ?_ <;> intro hc
   ·
    refine zxt <| ztx <| zbh <| ztn <| zrg ?_
    refine zlv (xadd (r := j + 1)) ?_
    refine zlv xmv ?_
    refine zln <| zlq ⟨c, j + 1, rfl, (by omega), (by omega), ?_, rfl, hS⟩
    ·
     rw [entr_next t r j0, ← hcc]; (repeat' split) <;> omega
   refine zsk <| ztn <| zsq <| zsr ?_
   refine zs2 ?_
   have hcr := entr_rng t r j.toNat; rw [← hcc] at hcr
   refine zlt ?_
   refine zcif ?_ ?_ <;> intro hc
   ·
    refine zsq ?_
    refine zdst [0] [0] 1000 mx_ hS ?_; clear hS; intro w hS
    refine zdv 0 (fun _ => xmv) ?_
    have hm1 := mul_abs (hp.cell (i := 0) (j := j + 1) (by omega) (by omega) (by omega) (by omega)) (hp.cell (i := r + 1) (j := c + 1) (by omega) (by omega) (by omega) (by omega)); have hm2 := mul_abs (hp.cell (i := 0) (j := c + 1) (by omega) (by omega) (by omega) (by omega)) (hp.cell (i := r + 1) (j := j + 1) (by omega) (by omega) (by omega) (by omega))
    have hne : t.F j ≠ t.F c := fun hh => by have := hp.injF (i := j) (j := c) (by omega) (by omega) (by omega) (by omega) (by omega) hh; omega
    refine zdv 1 (fun _ => xmv) ?_
    refine zdv 2 (fun _ => (xix (kk := j) sl_22 (suf_of (q := 1) (hT.C.p 0 (by omega) (by omega)).slh (hT.C.room 0 (by omega) (by omega)) (by omega)).slh)) ?_
    refine zdla 3 (fun w hS => (xlr (u := .int .i64 ((t.C 0) (j + 1))) pl_3 ((suf_of (q := 1) (hT.C.p 0 (by omega) (by omega)).slh (hT.C.room 0 (by omega) (by omega)) (by omega)).row (by omega) ((hT.C.p 0 (by omega) (by omega)).below hS.below)))) ?_
    refine zdv 4 (fun _ => xmv) ?_
    refine zdv 5 (fun _ => xmv) ?_
    refine zdv 6 (fun _ => (xix (kk := c) sl_22 (suf_of (q := 1) (hT.C.p (r + 1) (by omega) (by omega)).slh (hT.C.room (r + 1) (by omega) (by omega)) (by omega)).slh)) ?_
    refine zdla 7 (fun w hS => (xlr (u := .int .i64 ((t.C (r + 1)) (c + 1))) pl_3 ((suf_of (q := 1) (hT.C.p (r + 1) (by omega) (by omega)).slh (hT.C.room (r + 1) (by omega) (by omega)) (by omega)).row (by omega) ((hT.C.p (r + 1) (by omega) (by omega)).below hS.below)))) ?_
    refine zdv 8 (fun _ => (xmul (r := (((t.C 0) (j + 1)) * ((t.C (r + 1)) (c + 1)))) (e := rfl) (hr := (by unfold I64; omega)))) ?_
    refine zdv 9 (fun _ => xmv) ?_
    refine zdv 10 (fun _ => xmv) ?_
    refine zdv 11 (fun _ => (xix (kk := c) sl_22 (suf_of (q := 1) (hT.C.p 0 (by omega) (by omega)).slh (hT.C.room 0 (by omega) (by omega)) (by omega)).slh)) ?_
    refine zdla 12 (fun w hS => (xlr (u := .int .i64 ((t.C 0) (c + 1))) pl_3 ((suf_of (q := 1) (hT.C.p 0 (by omega) (by omega)).slh (hT.C.room 0 (by omega) (by omega)) (by omega)).row (by omega) ((hT.C.p 0 (by omega) (by omega)).below hS.below)))) ?_
    refine zdv 13 (fun _ => xmv) ?_
    refine zdv 14 (fun _ => (xmul (r := (((t.C 0) (c + 1)) * ((t.C (r + 1)) (j + 1)))) (e := rfl) (hr := (by unfold I64; omega)))) ?_
    refine zdv 15 (fun _ => xas) ?_
    refine zdv 16 (fun _ => xas) ?_
    refine zdd <| ztn <| zsq ?_
    refine zdst [0] [0] 1000 mx_ hS ?_; clear hS; intro w hS
    refine zdv 0 (fun _ => xmv) ?_
    refine zdv 1 (fun _ => xmv) ?_
    refine zdv 2 (fun _ => xgtr) ?_
    refine zdv 3 (fun _ => xmv) ?_
    refine zdb 101 ?_ ?_ <;> intro hc
    ·
     refine zdof 4 ?_
     refine zdof 5 ?_
     refine zdof 6 ?_
     refine zdof 7 ?_
     refine zdof 8 ?_
     refine zdof 9 ?_
     refine zdof 10 ?_
     refine zdof 11 ?_
     refine zdof 12 ?_
     refine zdof 13 ?_
     refine zdof 14 ?_
     refine zdof 15 ?_
     refine zdof 16 ?_
     refine zdof 17 ?_
     refine zdof 18 ?_
     refine zdof 19 ?_
     refine zdv 20 (fun _ => xpt) ?_
     refine zdd <| ztn <| zct <| zxt <| ztx <| zbh <| ztn <| zrg ?_
     refine zlv (xadd (r := j + 1)) ?_
     refine zlv xmv ?_
     refine zln <| zlq ⟨c, j + 1, rfl, (by omega), (by omega), ?_, rfl, hS⟩
     ·
      rw [entr_next t r j0, ← hcc]; (repeat' split) <;> omega
    refine zdv 4 (fun _ => xmv) ?_
    refine zdv 5 (fun _ => xmv) ?_
    refine zdv 6 (fun _ => xeql) ?_
    refine zdv 7 (fun _ => xmv) ?_
    refine zdb 105 ?_ ?_ <;> intro hc
    ·
     refine zdv 8 (fun _ => (xfb 3 fd_108_3)) ?_
     refine zdla 9 (fun w hS => (xlb 0 pl_22 hS)) ?_
     refine zdv 10 (fun _ => xmv) ?_
     refine zdv 11 (fun _ => (xix (kk := j) sl_22 hT.F.slh)) ?_
     refine zdla 12 (fun w hS => (xlr (u := .int .i64 (t.F j)) pl_3 (hT.F.below hS.below))) ?_
     refine zdv 13 (fun _ => (xfb 3 fd_108_3)) ?_
     refine zdla 14 (fun w hS => (xlb 0 pl_22 hS)) ?_
     refine zdv 15 (fun _ => xmv) ?_
     refine zdv 16 (fun _ => (xix (kk := c) sl_22 hT.F.slh)) ?_
     refine zdla 17 (fun w hS => (xlr (u := .int .i64 (t.F c)) pl_3 (hT.F.below hS.below))) ?_
     refine zdv 18 (fun _ => xgtr) ?_
     refine zdv 19 (fun _ => xpt) ?_
     refine zdv 20 (fun _ => xpf) ?_
     refine zdd <| ztn ?_
     refine zcif ?_ ?_ <;> intro hc
     ·
      refine zxt <| ztx <| zbh <| ztn <| zrg ?_
      refine zlv (xadd (r := j + 1)) ?_
      refine zlv xmv ?_
      refine zln <| zlq ⟨c, j + 1, rfl, (by omega), (by omega), ?_, rfl, hS⟩
      ·
       rw [entr_next t r j0, ← hcc]; (repeat' split) <;> omega
     refine zsk <| ztn <| zrg ?_
     refine zs2 ?_
     refine zln <| zbn <| ztn <| zrg ?_
     refine zlv (xadd (r := j + 1)) ?_
     refine zlv xmv ?_
     refine zln <| zlq ⟨j, j + 1, rfl, (by omega), (by omega), ?_, rfl, hS⟩
     ·
      rw [entr_next t r j0, ← hcc]; (repeat' split) <;> omega
    refine zdof 8 ?_
    refine zdof 9 ?_
    refine zdof 10 ?_
    refine zdof 11 ?_
    refine zdof 12 ?_
    refine zdof 13 ?_
    refine zdof 14 ?_
    refine zdof 15 ?_
    refine zdof 16 ?_
    refine zdof 17 ?_
    refine zdof 18 ?_
    refine zdv 19 (fun _ => xpf) ?_
    refine zdv 20 (fun _ => xpf) ?_
    refine zdd <| ztn <| zcf <| zsk <| ztn <| zrg ?_
    refine zs2 ?_
    refine zln <| zbn <| ztn <| zrg ?_
    refine zlv (xadd (r := j + 1)) ?_
    refine zlv xmv ?_
    refine zln <| zlq ⟨j, j + 1, rfl, (by omega), (by omega), ?_, rfl, hS⟩
    ·
     rw [entr_next t r j0, ← hcc]; (repeat' split) <;> omega
   refine zsk <| ztn <| zrg ?_
   refine zs2 ?_
   refine zln <| zbn <| ztn <| zrg ?_
   refine zlv (xadd (r := j + 1)) ?_
   refine zlv xmv ?_
   refine zln <| zlq ⟨j, j + 1, rfl, (by omega), (by omega), ?_, rfl, hS⟩
   ·
    rw [entr_next t r j0, ← hcc]; (repeat' split) <;> omega
  refine zxt <| ztx <| ztx <| zbh <| ztn <| zsq <| zsr ?_
  refine zs2 ?_
  refine zlt ?_
  refine zcif ?_ ?_ <;> intro hc
  ·
   refine zsr ?_
   refine zs4 ?_
   refine zlt <| zrt <| ztr <| zf4 ⟨_, rfl, ?_⟩
   obtain rfl : i = t.nb := by omega
   obtain rfl : j = t.nf := by omega
   subst hr; exact ⟨_, _, _, _, rfl, .inr (.inr (.inl ⟨hp, (fun j j0 j1 => by have := hax1 (j - 1) (by omega) (by omega); rw [show j - 1 + 1 = j by omega] at this; omega), by omega, by omega, rfl, rfl, rfl, rfl⟩)), hS.nl⟩
  refine zsk <| ztn <| zsr ?_
  refine zs6 ?_
  refine zlt <| zrt <| zf4 ⟨_, rfl, ?_⟩
  obtain rfl : i = t.nb := by omega
  obtain rfl : j = t.nf := by omega
  subst hr; exact ⟨_, _, _, _, rfl, .inr (.inr (.inr ⟨hp, (fun j j0 j1 => by have := hax1 (j - 1) (by omega) (by omega); rw [show j - 1 + 1 = j by omega] at this; omega), by omega, by omega, rfl, hcc, rfl, rfl⟩)), hS.nl⟩

set_option maxRecDepth 20000 in
theorem c_pivot {vB vF vC : Value} {vv : Int → Value} {t : Tb} {row col : Int} (w0 : World) (hT : TAt w0 vB vF vC vv t) (hrow0 : -9223372036854775808 ≤ row ∧ row ≤ 9223372036854775807) (hcol0 : -9223372036854775808 ≤ col ∧ col ≤ 9223372036854775807) :
    Calls Try.prog 92 [.agg #[.int .i64 t.vars, .int .i64 t.den, vB, vF, vC], .int .i64 row, .int .i64 col].toArray w0 fun e w => ∃ v, e = .returned v ∧ ∃ vB vF vC vv t' e, v = .tuple #[.agg #[.int .i64 t'.vars, .int .i64 t'.den, vB, vF, vC], .int .i64 e] ∧ PivR t row col t' e ∧ Slh vB t'.nb ∧ Slh vF t'.nf ∧ Slh vC t'.nc ∧ Sat w0 w [.own vB 1 3 t'.nb (ints t'.B), .own vF 1 3 t'.nf (ints t'.F), .own vC 1 22 t'.nc vv, .sem (Frame.rows 3 t'.nc vv t'.ln t'.C)] := by
  have hn := hT.F.slh.n0; have hn1 := hT.F.slh.n1; have hb := hT.B.slh.n0; have hb1 := hT.B.slh.n1; have hc0 := hT.C.row.slh.n0; have hc1 := hT.C.row.slh.n1
  refine zenG Try.func92 Try.ntmps92 fun w hS => ?_
  refine zsr ?_
  refine zla (xbx (cs := [_, _, _, _, _]) hS) ?_; rintro _ w ⟨g1, rfl, hS⟩
  replace hS := hS.n1
  refine zla (xal (cs := [_, _, _, _, _]) el_108 hS) ?_; rintro _ w ⟨g2, rfl, hS⟩
  replace hS := hS.n2
  refine zlv xas ?_
  refine zlt <| zsq <| zsr ?_
  refine zlv (xls 0 st_108 hS) ?_
  refine zlc (xc0 cl_114) (c_proper (t := t) w (hT.below hS.below)) ?_; rintro _ w ⟨rfl, hS'⟩
  replace hS := hS.cmp hS'; clear hS'
  refine zs2 ?_
  refine zlb 23 ?_ ?_ <;> intro hc
  ·
   iterate 2 refine zlo ?_
   refine zs2 ?_
   iterate 5 refine zlo ?_
   refine zs2 ?_
   iterate 2 refine zlo ?_
   refine zs2 ?_
   iterate 5 refine zlo ?_
   refine zs2 ?_
   iterate 11 refine zlo ?_
   refine zlv xpt ?_
   refine zlt <| zct <| zsr ?_
   refine zlv (xany (v := .agg #[.int .i64 0, .int .i64 0, .slice none 0 0, .slice none 0 0, .slice none 0 0])) ?_
   refine zle (xsw 1 st_108 hS) ?_; clear hS; rintro w hS
   replace hS := hS.n2
   refine zlv xas ?_
   refine zlt <| zrt <| ztr <| zfct 1 st_108 hS ⟨_, rfl, ?_⟩
   exact ⟨_, _, _, fun _ => undef, Tb.zero, 1, rfl, .inl ⟨by first | exact fun hh => absurd hh.1 ‹_› | (rintro ⟨_, p1, p2, p3, p4, p5⟩; omega), rfl, rfl⟩, slh_nil, slh_nil, slh_nil, ((((hS.sub (.cons _ (.cons _ .slnil))).addnil 1 3 (ints Tb.zero.B)).addnil 1 3 (ints Tb.zero.F)).addnil 1 22 (fun _ => undef)).addrows 3 (fun _ => undef) Tb.zero.ln Tb.zero.C⟩
  refine zlv xmv ?_
  have hp := (Classical.not_not.1 ‹¬ ¬ (TPrp t)›)
  have b1 := hp.n1
  have b2 := hp.n2
  have b3 := hp.m2
  have b4 := hp.v
  have b5 := hp.d1
  have b6 := hp.d2
  have b7 := hp.c
  refine zs3 ?_
  refine zlb 27 ?_ ?_ <;> intro hc
  ·
   iterate 5 refine zlo ?_
   refine zs2 ?_
   iterate 2 refine zlo ?_
   refine zs2 ?_
   iterate 5 refine zlo ?_
   refine zs2 ?_
   iterate 11 refine zlo ?_
   refine zlv xpt ?_
   refine zlt <| zct <| zsr ?_
   refine zlv (xany (v := .agg #[.int .i64 0, .int .i64 0, .slice none 0 0, .slice none 0 0, .slice none 0 0])) ?_
   refine zle (xsw 1 st_108 hS) ?_; clear hS; rintro w hS
   replace hS := hS.n2
   refine zlv xas ?_
   refine zlt <| zrt <| ztr <| zfct 1 st_108 hS ⟨_, rfl, ?_⟩
   exact ⟨_, _, _, fun _ => undef, Tb.zero, 1, rfl, .inl ⟨by first | exact fun hh => absurd hh.1 ‹_› | (rintro ⟨_, p1, p2, p3, p4, p5⟩; omega), rfl, rfl⟩, slh_nil, slh_nil, slh_nil, ((((hS.sub (.cons _ (.cons _ .slnil))).addnil 1 3 (ints Tb.zero.B)).addnil 1 3 (ints Tb.zero.F)).addnil 1 22 (fun _ => undef)).addrows 3 (fun _ => undef) Tb.zero.ln Tb.zero.C⟩
  refine zlv xmv ?_
  refine zlv (xfb 2 fd_108_2) ?_
  refine zlv (xlb 0 pl_22 hS) ?_
  refine zlv (xln sl_22 hT.B.slh) ?_
  refine zs3 ?_
  refine zlb 34 ?_ ?_ <;> intro hc
  ·
   iterate 2 refine zlo ?_
   refine zs2 ?_
   iterate 5 refine zlo ?_
   refine zs2 ?_
   iterate 11 refine zlo ?_
   refine zlv xpt ?_
   refine zlt <| zct <| zsr ?_
   refine zlv (xany (v := .agg #[.int .i64 0, .int .i64 0, .slice none 0 0, .slice none 0 0, .slice none 0 0])) ?_
   refine zle (xsw 1 st_108 hS) ?_; clear hS; rintro w hS
   replace hS := hS.n2
   refine zlv xas ?_
   refine zlt <| zrt <| ztr <| zfct 1 st_108 hS ⟨_, rfl, ?_⟩
   exact ⟨_, _, _, fun _ => undef, Tb.zero, 1, rfl, .inl ⟨by first | exact fun hh => absurd hh.1 ‹_› | (rintro ⟨_, p1, p2, p3, p4, p5⟩; omega), rfl, rfl⟩, slh_nil, slh_nil, slh_nil, ((((hS.sub (.cons _ (.cons _ .slnil))).addnil 1 3 (ints Tb.zero.B)).addnil 1 3 (ints Tb.zero.F)).addnil 1 22 (fun _ => undef)).addrows 3 (fun _ => undef) Tb.zero.ln Tb.zero.C⟩
  refine zs4 ?_
  refine zlb 38 ?_ ?_ <;> intro hc
  ·
   iterate 5 refine zlo ?_
   refine zs2 ?_
   iterate 11 refine zlo ?_
   refine zlv xpt ?_
   refine zlt <| zct <| zsr ?_
   refine zlv (xany (v := .agg #[.int .i64 0, .int .i64 0, .slice none 0 0, .slice none 0 0, .slice none 0 0])) ?_
   refine zle (xsw 1 st_108 hS) ?_; clear hS; rintro w hS
   replace hS := hS.n2
   refine zlv xas ?_
   refine zlt <| zrt <| ztr <| zfct 1 st_108 hS ⟨_, rfl, ?_⟩
   exact ⟨_, _, _, fun _ => undef, Tb.zero, 1, rfl, .inl ⟨by first | exact fun hh => absurd hh.1 ‹_› | (rintro ⟨_, p1, p2, p3, p4, p5⟩; omega), rfl, rfl⟩, slh_nil, slh_nil, slh_nil, ((((hS.sub (.cons _ (.cons _ .slnil))).addnil 1 3 (ints Tb.zero.B)).addnil 1 3 (ints Tb.zero.F)).addnil 1 22 (fun _ => undef)).addrows 3 (fun _ => undef) Tb.zero.ln Tb.zero.C⟩
  refine zlv xmv ?_
  refine zlv (xfb 3 fd_108_3) ?_
  refine zlv (xlb 0 pl_22 hS) ?_
  refine zlv (xln sl_22 hT.F.slh) ?_
  refine zs3 ?_
  refine zlb 45 ?_ ?_ <;> intro hc
  ·
   iterate 11 refine zlo ?_
   refine zlv xpt ?_
   refine zlt <| zct <| zsr ?_
   refine zlv (xany (v := .agg #[.int .i64 0, .int .i64 0, .slice none 0 0, .slice none 0 0, .slice none 0 0])) ?_
   refine zle (xsw 1 st_108 hS) ?_; clear hS; rintro w hS
   replace hS := hS.n2
   refine zlv xas ?_
   refine zlt <| zrt <| ztr <| zfct 1 st_108 hS ⟨_, rfl, ?_⟩
   exact ⟨_, _, _, fun _ => undef, Tb.zero, 1, rfl, .inl ⟨by first | exact fun hh => absurd hh.1 ‹_› | (rintro ⟨_, p1, p2, p3, p4, p5⟩; omega), rfl, rfl⟩, slh_nil, slh_nil, slh_nil, ((((hS.sub (.cons _ (.cons _ .slnil))).addnil 1 3 (ints Tb.zero.B)).addnil 1 3 (ints Tb.zero.F)).addnil 1 22 (fun _ => undef)).addrows 3 (fun _ => undef) Tb.zero.ln Tb.zero.C⟩
  refine zlv (xfb 4 fd_108_4) ?_
  refine zlv (xlb 0 pl_32 hS) ?_
  refine zlv xmv ?_
  refine zlv (xadd (r := row + 1)) ?_
  refine zlv (xix (kk := row + 1) sl_32 hT.C.row.slh) ?_
  refine zlv (xlr (u := (vv (row + 1))) pl_22 (hT.C.row.below hS.below)) ?_
  have hlr := hp.len (i := row + 1) (by omega) (by omega)
  refine zlv xmv ?_
  refine zlv (xadd (r := col + 1)) ?_
  refine zlv (xix (kk := col + 1) sl_22 (hT.C.p (row + 1) (by omega) (by omega)).slh) ?_
  refine zlv (xlr (u := .int .i64 ((t.C (row + 1)) (col + 1))) pl_3 ((hT.C.p (row + 1) (by omega) (by omega)).below hS.below)) ?_
  refine zs2 ?_
  refine zlt ?_
  refine zcif ?_ ?_ <;> intro hc
  ·
   refine zsr ?_
   refine zlv (xany (v := .agg #[.int .i64 0, .int .i64 0, .slice none 0 0, .slice none 0 0, .slice none 0 0])) ?_
   refine zle (xsw 1 st_108 hS) ?_; clear hS; rintro w hS
   replace hS := hS.n2
   refine zlv xas ?_
   refine zlt <| zrt <| ztr <| zfct 1 st_108 hS ⟨_, rfl, ?_⟩
   exact ⟨_, _, _, fun _ => undef, Tb.zero, 1, rfl, .inl ⟨by first | exact fun hh => absurd hh.1 ‹_› | (rintro ⟨_, p1, p2, p3, p4, p5⟩; omega), rfl, rfl⟩, slh_nil, slh_nil, slh_nil, ((((hS.sub (.cons _ (.cons _ .slnil))).addnil 1 3 (ints Tb.zero.B)).addnil 1 3 (ints Tb.zero.F)).addnil 1 22 (fun _ => undef)).addrows 3 (fun _ => undef) Tb.zero.ln Tb.zero.C⟩
  refine zsk <| ztn <| zsr ?_
  refine zlv xmv ?_
  refine zlv (xadd (r := row + 1)) ?_
  have hnz : t.C (row + 1) (col + 1) ≠ 0 := by omega
  have hpb := hp.cell (i := row + 1) (j := col + 1) (by omega) (by omega) (by omega) (by omega)
  refine zlv xmv ?_
  refine zlv (xadd (r := col + 1)) ?_
  refine zs2 ?_
  refine zlt <| zsq ?_
  refine zdst [0, 1] [0, 1] 1000 mx_ hS ?_; clear hS; intro w hS
  refine zdv 0 (fun _ => (xfb 4 fd_108_4)) ?_
  refine zdla 1 (fun w hS => (xlb 0 pl_32 hS)) ?_
  refine zdv 2 (fun _ => xmv) ?_
  refine zdv 3 (fun _ => (xix (kk := row + 1) sl_32 hT.C.row.slh)) ?_
  refine zdla 4 (fun w hS => (xlr (u := (vv (row + 1))) pl_22 (hT.C.row.below hS.below))) ?_
  refine zdv 5 (fun _ => xmv) ?_
  refine zdv 6 (fun _ => (xix (kk := col + 1) sl_22 (hT.C.p (row + 1) (by omega) (by omega)).slh)) ?_
  refine zdla 7 (fun w hS => (xlr (u := .int .i64 ((t.C (row + 1)) (col + 1))) pl_3 ((hT.C.p (row + 1) (by omega) (by omega)).below hS.below))) ?_
  refine zdv 8 (fun _ => (xfb 1 fd_108_1)) ?_
  refine zdla 9 (fun w hS => (xlb 0 pl_3 hS)) ?_
  refine zdv 10 (fun _ => xas) ?_
  refine zdv 11 (fun _ => xas) ?_
  refine zdd <| ztn <| zsq <| ?_
  refine zgcut (fun M w => ∃ (g3 : Nat) (vq1 : Value) (vq2 : Value) (voq3 : Value) (vwq3 : Int → Value), (Slh vq1 t.nb) ∧ (Slh vq2 t.nf) ∧ (Slh voq3 t.nc) ∧ (∀ k, 0 ≤ k → k < t.nc → Slh (vwq3 k) (t.ln k)) ∧ M = [(0, .agg #[.int .i64 t.vars, .int .i64 t.den, vB, vF, vC]), (1, .int .i64 row), (2, .int .i64 col), (3, .pointer (some ⟨g1, 0, none⟩)), (6, .pointer (some ⟨g2, 0, none⟩)), (7, .int .i64 0), (20, .agg #[.int .i64 t.vars, .int .i64 t.den, vB, vF, vC]), (21, B (TPrp t)), (22, B (¬ (TPrp t))), (23, .bool false), (24, .int .i64 row), (25, B (row < 0)), (26, B (row < 0)), (27, .bool false), (28, .int .i64 row), (29, .pointer (some ⟨g1, 2, none⟩)), (30, vB), (31, .int .i64 t.nb), (32, B (t.nb ≤ row)), (33, B (t.nb ≤ row)), (34, .bool false), (35, .int .i64 col), (36, B (col < 0)), (37, B (col < 0)), (38, .bool false), (39, .int .i64 col), (40, .pointer (some ⟨g1, 3, none⟩)), (41, vF), (42, .int .i64 t.nf), (43, B (t.nf ≤ col)), (44, B (t.nf ≤ col)), (45, .bool false), (46, .pointer (some ⟨g1, 4, none⟩)), (47, vC), (48, .int .i64 row), (49, .int .i64 (row + 1)), (50, .pointer (some (cad vC (row + 1)))), (51, (vv (row + 1))), (52, .int .i64 col), (53, .int .i64 (col + 1)), (54, .pointer (some (cad (vv (row + 1)) (col + 1)))), (55, .int .i64 ((t.C (row + 1)) (col + 1))), (56, B (((t.C (row + 1)) (col + 1)) = 0)), (57, B (((t.C (row + 1)) (col + 1)) = 0)), (59, .int .i64 row), (60, .int .i64 (row + 1)), (61, .int .i64 col), (62, .int .i64 (col + 1)), (8, .int .i64 (row + 1)), (9, .int .i64 (col + 1)), (63, .pointer (some ⟨g1, 4, none⟩)), (64, vC), (65, .int .i64 (row + 1)), (66, .pointer (some (cad vC (row + 1)))), (67, (vv (row + 1))), (68, .int .i64 (col + 1)), (69, .pointer (some (cad (vv (row + 1)) (col + 1)))), (70, .int .i64 ((t.C (row + 1)) (col + 1))), (71, .pointer (some ⟨g1, 1, none⟩)), (72, .int .i64 t.den), (10, .int .i64 ((t.C (row + 1)) (col + 1))), (11, .int .i64 t.den), (73, .pointer (some ⟨g1, 0, none⟩)), (74, .int .i64 t.vars), (75, .int .i64 ((t.C (row + 1)) (col + 1))), (76, .pointer (some ⟨g1, 2, none⟩)), (77, vB), (79, .pointer (some ⟨g1, 3, none⟩)), (80, vF), (82, .pointer (some ⟨g1, 4, none⟩)), (83, vC), (78, vq1), (81, vq2), (84, voq3), (85, .agg #[.int .i64 t.vars, .int .i64 ((t.C (row + 1)) (col + 1)), vq1, vq2, voq3]), (12, .pointer (some ⟨g3, 0, none⟩))] ∧ Sat w0 w [.blk g1 [.int .i64 t.vars, .int .i64 t.den, vB, vF, vC], .blk g2 [.int .i64 0, .int .i64 0, .slice none 0 0, .slice none 0 0, .slice none 0 0], .own vq1 1 3 t.nb (ints t.B), .own vq2 1 3 t.nf (ints t.F), .own voq3 1 22 t.nc vwq3, .sem (Frame.rows 3 t.nc vwq3 t.ln t.C), .blk g3 [.int .i64 t.vars, .int .i64 ((t.C (row + 1)) (col + 1)), vq1, vq2, voq3]]) ?_ ?_
  ·
   refine zdst [0, 1] [0, 1] 14 mx_ hS ?_; clear hS; intro w hS
   refine zdv 0 (fun _ => (xfb 0 fd_108_0)) ?_
   refine zdla 1 (fun w hS => (xlb 0 pl_3 hS)) ?_
   refine zdv 2 (fun _ => xmv) ?_
   refine zdv 3 (fun _ => (xfb 2 fd_108_2)) ?_
   refine zdla 4 (fun w hS => (xlb 0 pl_22 hS)) ?_
   refine zdv 6 (fun _ => (xfb 3 fd_108_3)) ?_
   refine zdla 7 (fun w hS => (xlb 0 pl_22 hS)) ?_
   refine zdv 9 (fun _ => (xfb 4 fd_108_4)) ?_
   refine zdla 10 (fun w hS => (xlb 0 pl_32 hS)) ?_
   refine zdfk (r := [5, 13]) ((zdn1 ?_ (zdn1 ?_ zdn0)))
   ·
    refine zkc (xc0 cl_42) (c_clone (n := t.nb) (f := t.B) w (hT.B.below hS.below) (by omega)) ?_; rintro vq1 w ⟨_, rfl, hslq1, hS'⟩
    replace hS : Sat w0 w [.blk g1 [.int .i64 t.vars, .int .i64 t.den, vB, vF, vC], .blk g2 [.int .i64 0, .int .i64 0, .slice none 0 0, .slice none 0 0, .slice none 0 0], .own vq1 1 3 t.nb (ints t.B)] := hS.comp hS'; clear hS'
    refine ⟨⟨fun _ => hS.pk [0, 1], hS.pk [0, 1]⟩, ?_⟩
    refine zdfk (r := [8, 13]) ((zdn1 ?_ (zdn1 ?_ zdn0)))
    ·
     refine zkc (xc0 cl_42) (c_clone (n := t.nf) (f := t.F) w (hT.F.below hS.below) (by omega)) ?_; rintro vq2 w ⟨_, rfl, hslq2, hS'⟩
     replace hS : Sat w0 w [.blk g1 [.int .i64 t.vars, .int .i64 t.den, vB, vF, vC], .blk g2 [.int .i64 0, .int .i64 0, .slice none 0 0, .slice none 0 0, .slice none 0 0], .own vq1 1 3 t.nb (ints t.B), .own vq2 1 3 t.nf (ints t.F)] := hS.comp hS'; clear hS'
     refine ⟨⟨fun _ => hS.pk [0, 1], hS.pk [0, 1]⟩, ?_⟩
     refine zdfk (r := [11, 13]) ((zdn1 ?_ (zdn1 ?_ zdn0)))
     ·
      refine zkc (xc0 cl_115) (c_cloned (n := t.nc) (vv := vv) (ln := t.ln) (f := t.C) w (hT.C.below hS.below) (by omega) (fun k k0 k1 => by have := hp.len (i := k) (by omega) (by omega); omega)) ?_; rintro voq3 w ⟨_, vwq3, rfl, hslq3, hS'⟩
      replace hS : Sat w0 w [.blk g1 [.int .i64 t.vars, .int .i64 t.den, vB, vF, vC], .blk g2 [.int .i64 0, .int .i64 0, .slice none 0 0, .slice none 0 0, .slice none 0 0], .own vq1 1 3 t.nb (ints t.B), .own vq2 1 3 t.nf (ints t.F), .own voq3 1 22 t.nc vwq3, .sem (Frame.rows 3 t.nc vwq3 t.ln t.C)] := hS.comp hS'; clear hS'
      have hrsq3 := fun k (k0 : 0 ≤ k) (k1 : k < t.nc) => hS.slhIn 5 rfl k0 k1
      refine ⟨⟨fun _ => hS.pk [0, 1], hS.pk [0, 1]⟩, ?_⟩
      refine zdv 12 (fun _ => (xany (v := .agg #[.int .i64 t.vars, .int .i64 ((t.C (row + 1)) (col + 1)), vq1, vq2, voq3]) (hr := by obtain ⟨_, _, _, _, rfl, _⟩ := hslq1; obtain ⟨_, _, _, _, rfl, _⟩ := hslq2; obtain ⟨_, _, _, _, rfl, _⟩ := hslq3; kernel_rfl))) ?_
      refine zda 13 (xal (cs := [_, _, _, _, _]) el_108 hS) ?_; rintro _ w ⟨g3, rfl, hS⟩
      replace hS := hS.n7
      refine ⟨⟨fun _ => hS.pk [0, 1], hS.pk [0, 1]⟩, ?_⟩
      refine zde 14 (xsw 6 st_108 hS (hd := (ones_cons rfl (ones_cons rfl (ones_cons hslq1.one (ones_cons hslq2.one (ones_cons hslq3.one ones_nil))))))) ?_; clear hS; rintro w hS
      replace hS := hS.n7
      refine ⟨⟨fun h => absurd h (by decide), hS.pk [0, 1]⟩, ?_⟩
      refine zdd <| zgj ⟨g3, vq1, vq2, voq3, vwq3, hslq1, hslq2, hslq3, hrsq3, rfl, hS⟩
     refine zka (xal (cs := [_, _, _, _, _]) el_108 hS) ?_; rintro _ w ⟨g3, rfl, hS⟩
     replace hS := hS.n5
     refine ⟨⟨fun _ => hS.pk [0, 1], hS.pk [0, 1]⟩, ?_⟩
     refine zdc 11 (xc0 cl_115) (c_cloned (n := t.nc) (vv := vv) (ln := t.ln) (f := t.C) w (hT.C.below hS.below) (by omega) (fun k k0 k1 => by have := hp.len (i := k) (by omega) (by omega); omega)) ?_; rintro voq3 w ⟨_, vwq3, rfl, hslq3, hS'⟩
     replace hS : Sat w0 w [.blk g1 [.int .i64 t.vars, .int .i64 t.den, vB, vF, vC], .blk g2 [.int .i64 0, .int .i64 0, .slice none 0 0, .slice none 0 0, .slice none 0 0], .own vq1 1 3 t.nb (ints t.B), .own vq2 1 3 t.nf (ints t.F), .blk g3 [.int .i64 0, .int .i64 0, .slice none 0 0, .slice none 0 0, .slice none 0 0], .own voq3 1 22 t.nc vwq3, .sem (Frame.rows 3 t.nc vwq3 t.ln t.C)] := hS.comp hS'; clear hS'
     have hrsq3 := fun k (k0 : 0 ≤ k) (k1 : k < t.nc) => hS.slhIn 6 rfl k0 k1
     refine ⟨⟨fun _ => hS.pk [0, 1], hS.pk [0, 1]⟩, ?_⟩
     refine zdv 12 (fun _ => (xany (v := .agg #[.int .i64 t.vars, .int .i64 ((t.C (row + 1)) (col + 1)), vq1, vq2, voq3]) (hr := by obtain ⟨_, _, _, _, rfl, _⟩ := hslq1; obtain ⟨_, _, _, _, rfl, _⟩ := hslq2; obtain ⟨_, _, _, _, rfl, _⟩ := hslq3; kernel_rfl))) ?_
     refine zde 14 (xsw 4 st_108 hS (hd := (ones_cons rfl (ones_cons rfl (ones_cons hslq1.one (ones_cons hslq2.one (ones_cons hslq3.one ones_nil))))))) ?_; clear hS; rintro w hS
     replace hS := hS.n7
     refine ⟨⟨fun h => absurd h (by decide), hS.pk [0, 1]⟩, ?_⟩
     refine zdd <| zgj ⟨g3, vq1, vq2, voq3, vwq3, hslq1, hslq2, hslq3, hrsq3, rfl, hS.pk [0, 1, 2, 3, 5, 6, 4]⟩
    refine zka (xal (cs := [_, _, _, _, _]) el_108 hS) ?_; rintro _ w ⟨g3, rfl, hS⟩
    replace hS := hS.n4
    refine ⟨⟨fun _ => hS.pk [0, 1], hS.pk [0, 1]⟩, ?_⟩
    refine zdc 8 (xc0 cl_42) (c_clone (n := t.nf) (f := t.F) w (hT.F.below hS.below) (by omega)) ?_; rintro vq2 w ⟨_, rfl, hslq2, hS'⟩
    replace hS : Sat w0 w [.blk g1 [.int .i64 t.vars, .int .i64 t.den, vB, vF, vC], .blk g2 [.int .i64 0, .int .i64 0, .slice none 0 0, .slice none 0 0, .slice none 0 0], .own vq1 1 3 t.nb (ints t.B), .blk g3 [.int .i64 0, .int .i64 0, .slice none 0 0, .slice none 0 0, .slice none 0 0], .own vq2 1 3 t.nf (ints t.F)] := hS.comp hS'; clear hS'
    refine ⟨⟨fun _ => hS.pk [0, 1], hS.pk [0, 1]⟩, ?_⟩
    refine zdc 11 (xc0 cl_115) (c_cloned (n := t.nc) (vv := vv) (ln := t.ln) (f := t.C) w (hT.C.below hS.below) (by omega) (fun k k0 k1 => by have := hp.len (i := k) (by omega) (by omega); omega)) ?_; rintro voq3 w ⟨_, vwq3, rfl, hslq3, hS'⟩
    replace hS : Sat w0 w [.blk g1 [.int .i64 t.vars, .int .i64 t.den, vB, vF, vC], .blk g2 [.int .i64 0, .int .i64 0, .slice none 0 0, .slice none 0 0, .slice none 0 0], .own vq1 1 3 t.nb (ints t.B), .blk g3 [.int .i64 0, .int .i64 0, .slice none 0 0, .slice none 0 0, .slice none 0 0], .own vq2 1 3 t.nf (ints t.F), .own voq3 1 22 t.nc vwq3, .sem (Frame.rows 3 t.nc vwq3 t.ln t.C)] := hS.comp hS'; clear hS'
    have hrsq3 := fun k (k0 : 0 ≤ k) (k1 : k < t.nc) => hS.slhIn 6 rfl k0 k1
    refine ⟨⟨fun _ => hS.pk [0, 1], hS.pk [0, 1]⟩, ?_⟩
    refine zdv 12 (fun _ => (xany (v := .agg #[.int .i64 t.vars, .int .i64 ((t.C (row + 1)) (col + 1)), vq1, vq2, voq3]) (hr := by obtain ⟨_, _, _, _, rfl, _⟩ := hslq1; obtain ⟨_, _, _, _, rfl, _⟩ := hslq2; obtain ⟨_, _, _, _, rfl, _⟩ := hslq3; kernel_rfl))) ?_
    refine zde 14 (xsw 3 st_108 hS (hd := (ones_cons rfl (ones_cons rfl (ones_cons hslq1.one (ones_cons hslq2.one (ones_cons hslq3.one ones_nil))))))) ?_; clear hS; rintro w hS
    replace hS := hS.n7
    refine ⟨⟨fun h => absurd h (by decide), hS.pk [0, 1]⟩, ?_⟩
    refine zdd <| zgj ⟨g3, vq1, vq2, voq3, vwq3, hslq1, hslq2, hslq3, hrsq3, rfl, hS.pk [0, 1, 2, 4, 5, 6, 3]⟩
   refine zka (xal (cs := [_, _, _, _, _]) el_108 hS) ?_; rintro _ w ⟨g3, rfl, hS⟩
   replace hS := hS.n3
   refine ⟨⟨fun _ => hS.pk [0, 1], hS.pk [0, 1]⟩, ?_⟩
   refine zdc 5 (xc0 cl_42) (c_clone (n := t.nb) (f := t.B) w (hT.B.below hS.below) (by omega)) ?_; rintro vq1 w ⟨_, rfl, hslq1, hS'⟩
   replace hS : Sat w0 w [.blk g1 [.int .i64 t.vars, .int .i64 t.den, vB, vF, vC], .blk g2 [.int .i64 0, .int .i64 0, .slice none 0 0, .slice none 0 0, .slice none 0 0], .blk g3 [.int .i64 0, .int .i64 0, .slice none 0 0, .slice none 0 0, .slice none 0 0], .own vq1 1 3 t.nb (ints t.B)] := hS.comp hS'; clear hS'
   refine ⟨⟨fun _ => hS.pk [0, 1], hS.pk [0, 1]⟩, ?_⟩
   refine zdc 8 (xc0 cl_42) (c_clone (n := t.nf) (f := t.F) w (hT.F.below hS.below) (by omega)) ?_; rintro vq2 w ⟨_, rfl, hslq2, hS'⟩
   replace hS : Sat w0 w [.blk g1 [.int .i64 t.vars, .int .i64 t.den, vB, vF, vC], .blk g2 [.int .i64 0, .int .i64 0, .slice none 0 0, .slice none 0 0, .slice none 0 0], .blk g3 [.int .i64 0, .int .i64 0, .slice none 0 0, .slice none 0 0, .slice none 0 0], .own vq1 1 3 t.nb (ints t.B), .own vq2 1 3 t.nf (ints t.F)] := hS.comp hS'; clear hS'
   refine ⟨⟨fun _ => hS.pk [0, 1], hS.pk [0, 1]⟩, ?_⟩
   refine zdc 11 (xc0 cl_115) (c_cloned (n := t.nc) (vv := vv) (ln := t.ln) (f := t.C) w (hT.C.below hS.below) (by omega) (fun k k0 k1 => by have := hp.len (i := k) (by omega) (by omega); omega)) ?_; rintro voq3 w ⟨_, vwq3, rfl, hslq3, hS'⟩
   replace hS : Sat w0 w [.blk g1 [.int .i64 t.vars, .int .i64 t.den, vB, vF, vC], .blk g2 [.int .i64 0, .int .i64 0, .slice none 0 0, .slice none 0 0, .slice none 0 0], .blk g3 [.int .i64 0, .int .i64 0, .slice none 0 0, .slice none 0 0, .slice none 0 0], .own vq1 1 3 t.nb (ints t.B), .own vq2 1 3 t.nf (ints t.F), .own voq3 1 22 t.nc vwq3, .sem (Frame.rows 3 t.nc vwq3 t.ln t.C)] := hS.comp hS'; clear hS'
   have hrsq3 := fun k (k0 : 0 ≤ k) (k1 : k < t.nc) => hS.slhIn 6 rfl k0 k1
   refine ⟨⟨fun _ => hS.pk [0, 1], hS.pk [0, 1]⟩, ?_⟩
   refine zdv 12 (fun _ => (xany (v := .agg #[.int .i64 t.vars, .int .i64 ((t.C (row + 1)) (col + 1)), vq1, vq2, voq3]) (hr := by obtain ⟨_, _, _, _, rfl, _⟩ := hslq1; obtain ⟨_, _, _, _, rfl, _⟩ := hslq2; obtain ⟨_, _, _, _, rfl, _⟩ := hslq3; kernel_rfl))) ?_
   refine zde 14 (xsw 2 st_108 hS (hd := (ones_cons rfl (ones_cons rfl (ones_cons hslq1.one (ones_cons hslq2.one (ones_cons hslq3.one ones_nil))))))) ?_; clear hS; rintro w hS
   replace hS := hS.n7
   refine ⟨⟨fun h => absurd h (by decide), hS.pk [0, 1]⟩, ?_⟩
   refine zdd <| zgj ⟨g3, vq1, vq2, voq3, vwq3, hslq1, hslq2, hslq3, hrsq3, rfl, hS.pk [0, 1, 3, 4, 5, 6, 2]⟩
  clear hS w; rintro M w ⟨g3, vq1, vq2, voq3, vwq3, hslq1, hslq2, hslq3, hrsq3, rfl, hS⟩
  refine ztn <| zsq ?_
  refine zdst [0, 1, 2, 3, 4, 5, 6] [0, 1, 4, 5, 6] 17 mx_ hS ?_; clear hS; intro w hS
  refine zdv 0 (fun _ => (xfb 2 fd_108_2)) ?_
  refine zdla 1 (fun w hS => (xlb 4 pl_22 hS)) ?_
  refine zdv 2 (fun _ => xmv) ?_
  refine zdv 3 (fun _ => (xfb 3 fd_108_3)) ?_
  refine zdla 4 (fun w hS => (xlb 4 pl_22 hS)) ?_
  refine zdv 5 (fun _ => xmv) ?_
  refine zdv 6 (fun _ => (xfb 3 fd_108_3)) ?_
  refine zdla 7 (fun w hS => (xlb 0 pl_22 hS)) ?_
  refine zdv 8 (fun _ => xmv) ?_
  refine zdv 9 (fun _ => (xix (kk := col) sl_22 hT.F.slh)) ?_
  refine zdla 10 (fun w hS => (xlr (u := .int .i64 (t.F col)) pl_3 (hT.F.below hS.below))) ?_
  refine zdv 11 (fun _ => (xfb 2 fd_108_2)) ?_
  refine zdla 12 (fun w hS => (xlb 0 pl_22 hS)) ?_
  refine zdv 13 (fun _ => xmv) ?_
  refine zdv 14 (fun _ => (xix (kk := row) sl_22 hT.B.slh)) ?_
  refine zdla 15 (fun w hS => (xlr (u := .int .i64 (t.B row)) pl_3 (hT.B.below hS.below))) ?_
  refine zdv 16 (fun _ => (xix (kk := row) sl_22 hslq1)) ?_
  refine zde 17 (xso 2 pl_3 hS (upd_ints _ _ _)) ?_; clear hS; rintro w hS
  replace hS := hS.n7
  refine ⟨⟨fun h => absurd h (by decide), hS.pk [0, 1, 4, 5, 6]⟩, ?_⟩
  refine zdv 18 (fun _ => (xix (kk := col) sl_22 hslq2)) ?_
  refine zde 19 (xso 3 pl_3 hS (upd_ints _ _ _)) ?_; clear hS; rintro w hS
  replace hS := hS.n7
  refine ⟨⟨fun h => absurd h (by decide), hS.pk [0, 1, 4, 5, 6]⟩, ?_⟩
  refine zdd <| ztn <| zsq <| zsr ?_
  refine zlv (xfb 4 fd_108_4) ?_
  refine zlv (xlb 0 pl_32 hS) ?_
  refine zlv (xln sl_32 hT.C.row.slh) ?_
  refine zlv xmv ?_
  refine zlt <| zbk <| zlp (fun mm M w => ∃ (cf : Int → Int → Int) (i : Int), mm = ((t.nc - i).toNat) ∧ (0 ≤ i) ∧ (i ≤ t.nc) ∧ (∀ a b, 0 ≤ a → a < i → 0 ≤ b → b ≤ t.nf → cf a b = pcell t (row + 1) (col + 1) a b) ∧ (∀ a b, 0 ≤ a → a < i → 0 ≤ b → b ≤ t.nf → divs t (row + 1) (col + 1) a b) ∧ M = [(3, .pointer (some ⟨g1, 0, none⟩)), (6, .pointer (some ⟨g2, 0, none⟩)), (8, .int .i64 (row + 1)), (9, .int .i64 (col + 1)), (10, .int .i64 ((t.C (row + 1)) (col + 1))), (11, .int .i64 t.den), (12, .pointer (some ⟨g3, 0, none⟩)), (105, vC), (106, .int .i64 t.nc), (107, .int .i64 i)] ∧ Sat w0 w [.blk g1 [.int .i64 t.vars, .int .i64 t.den, vB, vF, vC], .blk g2 [.int .i64 0, .int .i64 0, .slice none 0 0, .slice none 0 0, .slice none 0 0], .own vq1 1 3 t.nb (ints (upd t.B row (t.F col))), .own vq2 1 3 t.nf (ints (upd t.F col (t.B row))), .own voq3 1 22 t.nc vwq3, .sem (Frame.rows 3 t.nc vwq3 t.ln cf), .blk g3 [.int .i64 t.vars, .int .i64 ((t.C (row + 1)) (col + 1)), vq1, vq2, voq3]]) ⟨t.C, 0, rfl, (by omega), (by omega), ?_, ?_, rfl, hS⟩ ?_
  ·
   intro a b a0 a1; omega
  ·
   intro a b a0 a1; omega
  clear hS w
  rintro mm M w ⟨cf, i, rfl, h0, h1, hcf, hdv, rfl, hS⟩
  refine zsr ?_
  refine zlv xlss ?_
  refine zlt <| zsq ?_
  refine zcif ?_ ?_ <;> intro hc
  ·
   refine zsk <| ztn <| zsq <| zbk <| zsr ?_
   refine zlv xmv ?_
   refine zlv (xix (kk := i) sl_32 hT.C.row.slh) ?_
   refine zlv (xlr (u := (vv i)) pl_22 (hT.C.row.below hS.below)) ?_
   have hli := hp.len (i := i) (by omega) (by omega)
   refine zs2 ?_
   refine zlz ?_
   refine zlv xmv ?_
   refine zlv (xln sl_22 (hT.C.p i (by omega) (by omega)).slh) ?_
   refine zlv xmv ?_
   refine zlt <| zbk <| zlp (fun mm M w => ∃ (cf : Int → Int → Int) (j : Int), mm = ((t.nf + 1 - j).toNat) ∧ (0 ≤ j) ∧ (j ≤ t.nf + 1) ∧ (∀ a b, 0 ≤ a → a < i → 0 ≤ b → b ≤ t.nf → cf a b = pcell t (row + 1) (col + 1) a b) ∧ (∀ b, 0 ≤ b → b < j → cf i b = pcell t (row + 1) (col + 1) i b) ∧ (∀ b, 0 ≤ b → b < j → divs t (row + 1) (col + 1) i b) ∧ M = [(3, .pointer (some ⟨g1, 0, none⟩)), (6, .pointer (some ⟨g2, 0, none⟩)), (8, .int .i64 (row + 1)), (9, .int .i64 (col + 1)), (10, .int .i64 ((t.C (row + 1)) (col + 1))), (11, .int .i64 t.den), (12, .pointer (some ⟨g3, 0, none⟩)), (13, .int .i64 i), (14, (vv i)), (105, vC), (106, .int .i64 t.nc), (107, .int .i64 i), (112, (vv i)), (113, .int .i64 (t.ln i)), (114, .int .i64 j)] ∧ Sat w0 w [.blk g1 [.int .i64 t.vars, .int .i64 t.den, vB, vF, vC], .blk g2 [.int .i64 0, .int .i64 0, .slice none 0 0, .slice none 0 0, .slice none 0 0], .own vq1 1 3 t.nb (ints (upd t.B row (t.F col))), .own vq2 1 3 t.nf (ints (upd t.F col (t.B row))), .own voq3 1 22 t.nc vwq3, .sem (Frame.rows 3 t.nc vwq3 t.ln cf), .blk g3 [.int .i64 t.vars, .int .i64 ((t.C (row + 1)) (col + 1)), vq1, vq2, voq3]]) ⟨cf, 0, rfl, (by omega), (by omega), ?_, ?_, ?_, rfl, hS⟩ ?_
   ·
    exact hcf
   ·
    intro b b0 b1; omega
   ·
    intro b b0 b1; omega
   clear hS w
   rintro mm M w ⟨cf, j, rfl, j0, j1, hold, hrow, hdr, rfl, hS⟩
   refine zsr ?_
   refine zlv xlss ?_
   refine zlt <| zsq ?_
   refine zcif ?_ ?_ <;> intro hc
   ·
    refine zsk <| ztn <| zsq <| zbk <| zsr ?_
    refine zlv xmv ?_
    refine zlv (xix (kk := j) sl_22 (hT.C.p i (by omega) (by omega)).slh) ?_
    refine zlv (xlr (u := .int .i64 ((t.C i) j)) pl_3 ((hT.C.p i (by omega) (by omega)).below hS.below)) ?_
    have hcb := hp.cell (i := i) (j := j) (by omega) (by omega) (by omega) (by omega)
    refine zs2 ?_
    refine zlt <| zsq <| zbk <| zsr ?_
    refine zs4 ?_
    refine zlb 123 ?_ ?_ <;> intro hc
    ·
     refine zs5 ?_
     refine zlt ?_
     refine zcif ?_ ?_ <;> intro hc
     ·
      refine zrg ?_
      refine zs2 ?_
      refine zln <| zbn <| ztn <| zrg ?_
      refine zlv (xfb 4 fd_108_4) ?_
      refine zlv (xlb 6 pl_32 hS) ?_
      refine zlv xmv ?_
      refine zlv (xix (kk := i) sl_32 hslq3) ?_
      refine zlv (xlr (u := (vwq3 i)) pl_22 (hS.rowN 4 rfl)) ?_
      skip
      refine zs2 ?_
      refine zlv (xix (kk := j) sl_22 (hrsq3 i (by omega) (by omega))) ?_
      refine zle (xsr 5 pl_3 hS rfl) ?_; clear hS; rintro w hS
      replace hS := hS.n7
      refine zln <| zbn <| ztn <| zrg ?_
      refine zlv (xadd (r := j + 1)) ?_
      refine zlv xmv ?_
      refine zln <| zlq ⟨upd cf i (upd (cf i) j t.den), j + 1, rfl, (by omega), (by omega), ?_, ?_, ?_, rfl, hS⟩
      ·
       intro a b a0 a1 b0 b1; rw [gu_ne (by omega)]; exact hold a b a0 a1 b0 b1
      ·
       intro b b0 b1
       by_cases e : b = j
       · subst e; rw [gu_self, gu_self]; unfold pcell; (repeat' split) <;> first | rfl | omega | (exfalso; omega)
       · rw [gu_self, gu_ne e]; exact hrow b b0 (by omega)
      ·
       intro b b0 b1
       by_cases e : b = j
       · subst e; intro e1 e2; first | omega | exact Classical.not_not.1 ‹_›
       · exact hdr b b0 (by omega)
     refine zsr ?_
     refine zs2 ?_
     refine zlv (xkt xeql) ?_
     refine zlv xas ?_
     refine zlt <| zct <| zrg ?_
     refine zlv xmv ?_
     refine zlv (xneg (r := -(((t.C i) j))) (hr := (by unfold I64; omega))) ?_
     refine zlv xas ?_
     refine zln <| zbn <| ztn <| zrg ?_
     refine zlv (xfb 4 fd_108_4) ?_
     refine zlv (xlb 6 pl_32 hS) ?_
     refine zlv xmv ?_
     refine zlv (xix (kk := i) sl_32 hslq3) ?_
     refine zlv (xlr (u := (vwq3 i)) pl_22 (hS.rowN 4 rfl)) ?_
     skip
     refine zs2 ?_
     refine zlv (xix (kk := j) sl_22 (hrsq3 i (by omega) (by omega))) ?_
     refine zle (xsr 5 pl_3 hS rfl) ?_; clear hS; rintro w hS
     replace hS := hS.n7
     refine zln <| zbn <| ztn <| zrg ?_
     refine zlv (xadd (r := j + 1)) ?_
     refine zlv xmv ?_
     refine zln <| zlq ⟨upd cf i (upd (cf i) j (-(((t.C i) j)))), j + 1, rfl, (by omega), (by omega), ?_, ?_, ?_, rfl, hS⟩
     ·
      intro a b a0 a1 b0 b1; rw [gu_ne (by omega)]; exact hold a b a0 a1 b0 b1
     ·
      intro b b0 b1
      by_cases e : b = j
      · subst e; rw [gu_self, gu_self]; unfold pcell; (repeat' split) <;> first | rfl | omega | (exfalso; omega)
      · rw [gu_self, gu_ne e]; exact hrow b b0 (by omega)
     ·
      intro b b0 b1
      by_cases e : b = j
      · subst e; intro e1 e2; first | omega | exact Classical.not_not.1 ‹_›
      · exact hdr b b0 (by omega)
    iterate 3 refine zlo ?_
    refine zs2 ?_
    refine zlt <| zcf <| zsr ?_
    refine zs4 ?_
    refine zlt ?_
    refine zcif ?_ ?_ <;> intro hc
    ·
     exfalso; omega
    refine zsr ?_
    refine zs4 ?_
    refine zlt ?_
    refine zcif ?_ ?_ <;> intro hc
    ·
     refine zsq ?_
     refine zdst [0, 1, 2, 3, 4, 5, 6] [0, 1, 2, 3, 4, 5, 6] 1000 mx_ hS ?_; clear hS; intro w hS
     refine zdv 0 (fun _ => xmv) ?_
     have hm1 := mul_abs hpb hcb; have hm2 := mul_abs (hp.cell (i := i) (j := col + 1) (by omega) (by omega) (by omega) (by omega)) (hp.cell (i := row + 1) (j := j) (by omega) (by omega) (by omega) (by omega))
     have hqd := tdiv_abs (a := t.C (row + 1) (col + 1) * t.C i j - t.C i (col + 1) * t.C (row + 1) j) (d := t.den) (A := 2305843009213693952) (by omega) (by omega)
     refine zdv 1 (fun _ => xmv) ?_
     refine zdv 2 (fun _ => (xmul (r := (((t.C (row + 1)) (col + 1)) * ((t.C i) j))) (e := rfl) (hr := (by unfold I64; omega)))) ?_
     refine zdv 3 (fun _ => xmv) ?_
     refine zdv 4 (fun _ => xmv) ?_
     refine zdv 5 (fun _ => (xix (kk := col + 1) sl_22 (hT.C.p i (by omega) (by omega)).slh)) ?_
     refine zdla 6 (fun w hS => (xlr (u := .int .i64 ((t.C i) (col + 1))) pl_3 ((hT.C.p i (by omega) (by omega)).below hS.below))) ?_
     refine zdv 7 (fun _ => (xfb 4 fd_108_4)) ?_
     refine zdla 8 (fun w hS => (xlb 0 pl_32 hS)) ?_
     refine zdv 9 (fun _ => xmv) ?_
     refine zdv 10 (fun _ => (xix (kk := row + 1) sl_32 hT.C.row.slh)) ?_
     refine zdla 11 (fun w hS => (xlr (u := (vv (row + 1))) pl_22 (hT.C.row.below hS.below))) ?_
     refine zdv 12 (fun _ => xmv) ?_
     refine zdv 13 (fun _ => (xix (kk := j) sl_22 (hT.C.p (row + 1) (by omega) (by omega)).slh)) ?_
     refine zdla 14 (fun w hS => (xlr (u := .int .i64 ((t.C (row + 1)) j)) pl_3 ((hT.C.p (row + 1) (by omega) (by omega)).below hS.below))) ?_
     refine zdv 15 (fun _ => (xmul (r := (((t.C i) (col + 1)) * ((t.C (row + 1)) j))) (e := rfl) (hr := (by unfold I64; omega)))) ?_
     refine zdv 16 (fun _ => (xsub (r := (((t.C (row + 1)) (col + 1)) * ((t.C i) j)) - (((t.C i) (col + 1)) * ((t.C (row + 1)) j))) (hr := (by unfold I64; omega)))) ?_
     refine zdv 17 (fun _ => xas) ?_
     refine zdd <| ztn <| zsq <| zsr ?_
     refine zs2 ?_
     refine zlv (xrem (r := (Int.tmod ((((t.C (row + 1)) (col + 1)) * ((t.C i) j)) - (((t.C i) (col + 1)) * ((t.C (row + 1)) j))) t.den)) (hn := (by omega))) ?_
     refine zlv xneq ?_
     refine zlt ?_
     refine zcif ?_ ?_ <;> intro hc
     ·
      refine zsr ?_
      refine zlv (xany (v := .agg #[.int .i64 0, .int .i64 0, .slice none 0 0, .slice none 0 0, .slice none 0 0])) ?_
      refine zle (xsw 1 st_108 hS) ?_; clear hS; rintro w hS
      replace hS := hS.n7
      refine zlv xas ?_
      refine zlt <| zrt <| ztr <| zbr <| ztr <| zbr <| ztr <| ztr <| zbr <| zbr <| ztr <| ztr <| zbr <| ztr <| zfct 1 st_108 hS ⟨_, rfl, ?_⟩
      exact ⟨_, _, _, fun _ => undef, Tb.zero, 4, rfl, .inr (.inl ⟨⟨hp, by omega, by omega, by omega, by omega, hnz⟩, fun hd => by have := hd i j h0 (by omega) j0 (by omega) (by omega) (by omega); omega, rfl, rfl⟩), slh_nil, slh_nil, slh_nil, ((((hS.sub (.cons _ (.cons _ (.cons _ (.cons _ (.cons _ (.cons _ (.cons _ .slnil)))))))).addnil 1 3 (ints Tb.zero.B)).addnil 1 3 (ints Tb.zero.F)).addnil 1 22 (fun _ => undef)).addrows 3 (fun _ => undef) Tb.zero.ln Tb.zero.C⟩
     refine zsk <| ztn <| zrg ?_
     refine zs2 ?_
     refine zlv (xquo (r := (Int.tdiv ((((t.C (row + 1)) (col + 1)) * ((t.C i) j)) - (((t.C i) (col + 1)) * ((t.C (row + 1)) j))) t.den)) (hn := (by omega)) (hr := (by unfold I64; omega))) ?_
     refine zlv xas ?_
     refine zln <| zbn <| ztn <| zrg ?_
     refine zlv (xfb 4 fd_108_4) ?_
     refine zlv (xlb 6 pl_32 hS) ?_
     refine zlv xmv ?_
     refine zlv (xix (kk := i) sl_32 hslq3) ?_
     refine zlv (xlr (u := (vwq3 i)) pl_22 (hS.rowN 4 rfl)) ?_
     skip
     refine zs2 ?_
     refine zlv (xix (kk := j) sl_22 (hrsq3 i (by omega) (by omega))) ?_
     refine zle (xsr 5 pl_3 hS rfl) ?_; clear hS; rintro w hS
     replace hS := hS.n7
     refine zln <| zbn <| ztn <| zrg ?_
     refine zlv (xadd (r := j + 1)) ?_
     refine zlv xmv ?_
     refine zln <| zlq ⟨upd cf i (upd (cf i) j (Int.tdiv ((((t.C (row + 1)) (col + 1)) * ((t.C i) j)) - (((t.C i) (col + 1)) * ((t.C (row + 1)) j))) t.den)), j + 1, rfl, (by omega), (by omega), ?_, ?_, ?_, rfl, hS⟩
     ·
      intro a b a0 a1 b0 b1; rw [gu_ne (by omega)]; exact hold a b a0 a1 b0 b1
     ·
      intro b b0 b1
      by_cases e : b = j
      · subst e; rw [gu_self, gu_self]; unfold pcell; (repeat' split) <;> first | rfl | omega | (exfalso; omega)
      · rw [gu_self, gu_ne e]; exact hrow b b0 (by omega)
     ·
      intro b b0 b1
      by_cases e : b = j
      · subst e; intro e1 e2; first | omega | exact Classical.not_not.1 ‹_›
      · exact hdr b b0 (by omega)
    refine zsk <| zbn <| ztn <| zrg ?_
    refine zlv (xfb 4 fd_108_4) ?_
    refine zlv (xlb 6 pl_32 hS) ?_
    refine zlv xmv ?_
    refine zlv (xix (kk := i) sl_32 hslq3) ?_
    refine zlv (xlr (u := (vwq3 i)) pl_22 (hS.rowN 4 rfl)) ?_
    skip
    refine zs2 ?_
    refine zlv (xix (kk := j) sl_22 (hrsq3 i (by omega) (by omega))) ?_
    refine zle (xsr 5 pl_3 hS rfl) ?_; clear hS; rintro w hS
    replace hS := hS.n7
    refine zln <| zbn <| ztn <| zrg ?_
    refine zlv (xadd (r := j + 1)) ?_
    refine zlv xmv ?_
    refine zln <| zlq ⟨upd cf i (upd (cf i) j ((t.C i) j)), j + 1, rfl, (by omega), (by omega), ?_, ?_, ?_, rfl, hS⟩
    ·
     intro a b a0 a1 b0 b1; rw [gu_ne (by omega)]; exact hold a b a0 a1 b0 b1
    ·
     intro b b0 b1
     by_cases e : b = j
     · subst e; rw [gu_self, gu_self]; unfold pcell; (repeat' split) <;> first | rfl | omega | (exfalso; omega)
     · rw [gu_self, gu_ne e]; exact hrow b b0 (by omega)
    ·
     intro b b0 b1
     by_cases e : b = j
     · subst e; intro e1 e2; first | omega | exact Classical.not_not.1 ‹_›
     · exact hdr b b0 (by omega)
   refine zxt <| ztx <| ztx <| zbh <| zbn <| ztn <| zrg ?_
   refine zlv (xadd (r := i + 1)) ?_
   refine zlv xmv ?_
   refine zln <| zlq ⟨cf, i + 1, rfl, (by omega), (by omega), ?_, ?_, rfl, hS⟩
   ·
    intro a b a0 a1 b0 b1
    by_cases e : a = i
    · subst e; exact hrow b b0 (by omega)
    · exact hold a b a0 (by omega) b0 b1
   ·
    intro a b a0 a1 b0 b1
    by_cases e : a = i
    · subst e; exact hdr b b0 (by omega)
    · exact hdv a b a0 (by omega) b0 b1
  refine zxt <| ztx <| ztx <| zbh <| ztn <| zsq <| zsr ?_
  refine zlv xmv ?_
  have hin : i = t.nc := by omega
  have hdv' : pdiv t row col := fun a b a0 a1 b0 b1 => hdv a b a0 (by omega) b0 b1
  refine zlv xlss ?_
  refine zlt ?_
  refine zcif ?_ ?_ <;> intro hc
  ·
   refine zsr ?_
   refine zlv xmv ?_
   refine zlv (xneg (r := -(((t.C (row + 1)) (col + 1)))) (hr := (by unfold I64; omega))) ?_
   refine zlv (xfb 1 fd_108_1) ?_
   refine zle (xsb 6 pl_3 hS) ?_; clear hS; rintro w hS
   replace hS := hS.n7
   refine zlz ?_
   refine zlv (xfb 4 fd_108_4) ?_
   refine zlv (xlb 6 pl_32 hS) ?_
   refine zlv (xln sl_32 hslq3) ?_
   refine zlv xmv ?_
   refine zlt <| zbk <| zlp (fun mm M w => ∃ (cf : Int → Int → Int) (k : Int), mm = ((t.nc - k).toNat) ∧ (0 ≤ k) ∧ (k ≤ t.nc) ∧ (∀ a b, 0 ≤ a → a < k → 0 ≤ b → b ≤ t.nf → cf a b = -pcell t (row + 1) (col + 1) a b) ∧ (∀ a b, k ≤ a → a < t.nc → 0 ≤ b → b ≤ t.nf → cf a b = pcell t (row + 1) (col + 1) a b) ∧ M = [(6, .pointer (some ⟨g2, 0, none⟩)), (12, .pointer (some ⟨g3, 0, none⟩)), (180, voq3), (181, .int .i64 t.nc), (182, .int .i64 k)] ∧ Sat w0 w [.blk g1 [.int .i64 t.vars, .int .i64 t.den, vB, vF, vC], .blk g2 [.int .i64 0, .int .i64 0, .slice none 0 0, .slice none 0 0, .slice none 0 0], .own vq1 1 3 t.nb (ints (upd t.B row (t.F col))), .own vq2 1 3 t.nf (ints (upd t.F col (t.B row))), .own voq3 1 22 t.nc vwq3, .sem (Frame.rows 3 t.nc vwq3 t.ln cf), .blk g3 [.int .i64 t.vars, .int .i64 (-(((t.C (row + 1)) (col + 1)))), vq1, vq2, voq3]]) ⟨cf, 0, rfl, (by omega), (by omega), ?_, ?_, rfl, hS⟩ ?_
   ·
    intro a b a0 a1; omega
   ·
    intro a b a0 a1 b0 b1; exact hcf a b (by omega) (by omega) b0 b1
   clear hS w
   rintro mm M w ⟨cf, k, rfl, k0, k1, hng, hps, rfl, hS⟩
   refine zsr ?_
   refine zlv xlss ?_
   refine zlt <| zsq ?_
   refine zcif ?_ ?_ <;> intro hc
   ·
    refine zsk <| ztn <| zsq <| zbk <| zsr ?_
    refine zlv (xix (kk := k) sl_32 hslq3) ?_
    refine zlv (xlr (u := (vwq3 k)) pl_22 (hS.rowN 4 rfl)) ?_
    have hlk := hp.len (i := k) (by omega) (by omega)
    refine zlv xas ?_
    refine zlz ?_
    refine zlv xmv ?_
    refine zlv (xln sl_22 (hrsq3 k (by omega) (by omega))) ?_
    refine zlv xmv ?_
    refine zlt <| zbk <| zlp (fun mm M w => ∃ (cf : Int → Int → Int) (q : Int), mm = ((t.nf + 1 - q).toNat) ∧ (0 ≤ q) ∧ (q ≤ t.nf + 1) ∧ (∀ a b, 0 ≤ a → a < k → 0 ≤ b → b ≤ t.nf → cf a b = -pcell t (row + 1) (col + 1) a b) ∧ (∀ a b, k + 1 ≤ a → a < t.nc → 0 ≤ b → b ≤ t.nf → cf a b = pcell t (row + 1) (col + 1) a b) ∧ (∀ b, 0 ≤ b → b < q → cf k b = -pcell t (row + 1) (col + 1) k b) ∧ (∀ b, q ≤ b → b ≤ t.nf → cf k b = pcell t (row + 1) (col + 1) k b) ∧ M = [(6, .pointer (some ⟨g2, 0, none⟩)), (12, .pointer (some ⟨g3, 0, none⟩)), (18, (vwq3 k)), (180, voq3), (181, .int .i64 t.nc), (182, .int .i64 k), (187, .int .i64 (t.ln k)), (188, .int .i64 q)] ∧ Sat w0 w [.blk g1 [.int .i64 t.vars, .int .i64 t.den, vB, vF, vC], .blk g2 [.int .i64 0, .int .i64 0, .slice none 0 0, .slice none 0 0, .slice none 0 0], .own vq1 1 3 t.nb (ints (upd t.B row (t.F col))), .own vq2 1 3 t.nf (ints (upd t.F col (t.B row))), .own voq3 1 22 t.nc vwq3, .sem (Frame.rows 3 t.nc vwq3 t.ln cf), .blk g3 [.int .i64 t.vars, .int .i64 (-(((t.C (row + 1)) (col + 1)))), vq1, vq2, voq3]]) ⟨cf, 0, rfl, (by omega), (by omega), ?_, ?_, ?_, ?_, rfl, hS⟩ ?_
    ·
     exact hng
    ·
     intro a b a0 a1 b0 b1; exact hps a b (by omega) a1 b0 b1
    ·
     intro b b0 b1; omega
    ·
     intro b b0 b1; exact hps k b (Int.le_refl _) (by omega) (by omega) b1
    clear hS w
    rintro mm M w ⟨cf, q, rfl, q0, q1, hng, hps, hng3, hng2, rfl, hS⟩
    refine zsr ?_
    refine zlv xlss ?_
    refine zlt <| zsq ?_
    refine zcif ?_ ?_ <;> intro hc
    ·
     refine zsk <| ztn <| zsq <| zbk <| zsr ?_
     refine zs2 ?_
     refine zlt <| zrg ?_
     refine zs4 ?_
     refine zlv (xix (kk := q) sl_22 (hrsq3 k (by omega) (by omega))) ?_
     refine zlv (xlr (u := .int .i64 (cf k q)) pl_3 (hS.rowIn (k := k) 5 rfl (by omega) (by omega))) ?_
     have hng1 := hng2 q (Int.le_refl _) (by omega)
     have hpc : -9223372036854775807 ≤ cf k q ∧ cf k q ≤ 9223372036854775807 := by rw [hng1]; exact pcell_bd hp (by omega) (by omega) (by omega) (by omega) (by omega) (by omega) (by omega) (by omega)
     refine zlv (xneg (r := -((cf k q))) (hr := (by unfold I64; omega))) ?_
     refine zlv (xix (kk := q) sl_22 (hrsq3 k (by omega) (by omega))) ?_
     refine zle (xsr 5 pl_3 hS rfl) ?_; clear hS; rintro w hS
     replace hS := hS.n7
     refine zln <| zbn <| ztn <| zrg ?_
     refine zlv (xadd (r := q + 1)) ?_
     refine zlv xmv ?_
     refine zln <| zlq ⟨upd cf k (upd (cf k) q (-((cf k q)))), q + 1, rfl, (by omega), (by omega), ?_, ?_, ?_, ?_, rfl, hS⟩
     ·
      intro a b a0 a1 b0 b1; rw [gu_ne (by omega)]; exact hng a b a0 a1 b0 b1
     ·
      intro a b a0 a1 b0 b1; rw [gu_ne (by omega)]; exact hps a b a0 a1 b0 b1
     ·
      intro b b0 b1
      by_cases e : b = q
      · subst e; rw [gu_self, gu_self, hng1]
      · rw [gu_self, gu_ne e]; exact hng3 b b0 (by omega)
     ·
      intro b b0 b1; rw [gu_self, gu_ne (by omega)]; exact hng2 b (by omega) b1
    refine zxt <| ztx <| ztx <| zbh <| zbn <| ztn <| zrg ?_
    refine zlv (xadd (r := k + 1)) ?_
    refine zlv xmv ?_
    refine zln <| zlq ⟨cf, k + 1, rfl, (by omega), (by omega), ?_, ?_, rfl, hS⟩
    ·
     intro a b a0 a1 b0 b1
     by_cases e : a = k
     · subst e; exact hng3 b b0 (by omega)
     · exact hng a b a0 (by omega) b0 b1
    ·
     intro a b a0 a1 b0 b1; exact hps a b (by omega) a1 b0 b1
   refine zxt <| ztx <| ztx <| zbh <| ztn <| zsq <| zsr ?_
   refine zlv (xls 6 st_108 hS) ?_
   have hden : -(((t.C (row + 1)) (col + 1))) = (piv t row col).den := (if_pos (by omega)).symm
   replace hS := hS.rerows (vv' := vwq3) (ln' := (piv t row col).ln) (f' := (piv t row col).C) 5 rfl (fun k k0 k1 => ⟨rfl, rfl, fun j j0 j1 => by
     have hlk := hp.len (i := k) (by omega) (by omega)
     exact (hng k j k0 (by omega) j0 (by omega)).trans (if_pos (by omega)).symm⟩)
   rw [hden] at hS ⊢
   obtain ⟨u, huu⟩ : ∃ u, u = piv t row col := ⟨_, rfl⟩
   have hslnbu : Slh vq1 u.nb := by subst huu; exact hslq1
   have hslnfu : Slh vq2 u.nf := by subst huu; exact hslq2
   have hslncu : Slh voq3 u.nc := by subst huu; exact hslq3
   replace hS : Sat w0 w [.blk g1 [.int .i64 t.vars, .int .i64 t.den, vB, vF, vC], .blk g2 [.int .i64 0, .int .i64 0, .slice none 0 0, .slice none 0 0, .slice none 0 0], .own vq1 1 3 u.nb (ints u.B), .own vq2 1 3 u.nf (ints u.F), .own voq3 1 22 u.nc vwq3, .sem (Frame.rows 3 u.nc vwq3 u.ln u.C), .blk g3 [.int .i64 u.vars, .int .i64 u.den, vq1, vq2, voq3]] := by subst huu; exact hS
   have hrsu := fun k (k0 : 0 ≤ k) (k1 : k < u.nc) => hS.slhIn 5 rfl k0 k1
   refine zlas 201 (u := .agg #[.int .i64 u.vars, .int .i64 u.den, vq1, vq2, voq3]) (by subst huu; first | rfl | (congr 1)) ?_
   refine zlc (xc0 cl_114) (c_proper (t := u) w (⟨(hS.rowN 2 rfl), (hS.rowN 3 rfl), (⟨(hS.rowN 4 rfl), fun k k0 k1 => hS.rowIn 5 rfl k0 k1, fun k k0 k1 => hS.roomIn 5 rfl k0 k1⟩ : MAt _ voq3 u.nc vwq3 u.ln u.C)⟩ : TAt _ vq1 vq2 voq3 vwq3 u)) ?_; rintro _ w ⟨rfl, hS'⟩
   replace hS := hS.cmp hS'; clear hS'
   refine zlv xnot ?_
   refine zlt ?_
   refine zcif ?_ ?_ <;> intro hc
   ·
    refine zsr ?_
    refine zlv (xany (v := .agg #[.int .i64 0, .int .i64 0, .slice none 0 0, .slice none 0 0, .slice none 0 0])) ?_
    refine zle (xsw 1 st_108 hS) ?_; clear hS; rintro w hS
    replace hS := hS.n7
    refine zlv xas ?_
    refine zlt <| zrt <| ztr <| zfct 1 st_108 hS ⟨_, rfl, ?_⟩
    exact ⟨_, _, _, fun _ => undef, Tb.zero, 2, rfl, .inr (.inr (.inl ⟨⟨hp, by omega, by omega, by omega, by omega, hnz⟩, hdv', huu ▸ ‹¬ TPrp u›, rfl, rfl⟩)), slh_nil, slh_nil, slh_nil, ((((hS.sub (.cons _ (.cons _ (.cons _ (.cons _ (.cons _ (.cons _ (.cons _ .slnil)))))))).addnil 1 3 (ints Tb.zero.B)).addnil 1 3 (ints Tb.zero.F)).addnil 1 22 (fun _ => undef)).addrows 3 (fun _ => undef) Tb.zero.ln Tb.zero.C⟩
   refine zsk <| ztn <| zsr ?_
   refine zlv (xls 6 st_108 hS) ?_
   refine zle (xsw 1 st_108 hS (hd := (ones_cons rfl (ones_cons rfl (ones_cons hslnbu.one (ones_cons hslnfu.one (ones_cons hslncu.one ones_nil))))))) ?_; clear hS; rintro w hS
   replace hS := hS.n7
   refine zlv xas ?_
   refine zlt <| zrt <| zfct 1 st_108 hS ⟨_, rfl, ?_⟩
   exact ⟨_, _, _, _, u, 0, rfl, .inr (.inr (.inr ⟨⟨hp, by omega, by omega, by omega, by omega, hnz⟩, hdv', huu ▸ (Classical.not_not.1 ‹¬ ¬ (TPrp u)›), huu, rfl⟩)), hslnbu, hslnfu, hslncu, hS.pk [2, 3, 4, 5]⟩
  refine zsk <| ztn <| zsq <| zsr ?_
  refine zlv (xls 6 st_108 hS) ?_
  have hden : ((t.C (row + 1)) (col + 1)) = (piv t row col).den := (if_neg (by omega)).symm
  replace hS := hS.rerows (vv' := vwq3) (ln' := (piv t row col).ln) (f' := (piv t row col).C) 5 rfl (fun k k0 k1 => ⟨rfl, rfl, fun j j0 j1 => by
    have hlk := hp.len (i := k) (by omega) (by omega)
    exact (hcf k j k0 (by omega) j0 (by omega)).trans (if_neg (by omega)).symm⟩)
  rw [hden] at hS ⊢
  obtain ⟨u, huu⟩ : ∃ u, u = piv t row col := ⟨_, rfl⟩
  have hslnbu : Slh vq1 u.nb := by subst huu; exact hslq1
  have hslnfu : Slh vq2 u.nf := by subst huu; exact hslq2
  have hslncu : Slh voq3 u.nc := by subst huu; exact hslq3
  replace hS : Sat w0 w [.blk g1 [.int .i64 t.vars, .int .i64 t.den, vB, vF, vC], .blk g2 [.int .i64 0, .int .i64 0, .slice none 0 0, .slice none 0 0, .slice none 0 0], .own vq1 1 3 u.nb (ints u.B), .own vq2 1 3 u.nf (ints u.F), .own voq3 1 22 u.nc vwq3, .sem (Frame.rows 3 u.nc vwq3 u.ln u.C), .blk g3 [.int .i64 u.vars, .int .i64 u.den, vq1, vq2, voq3]] := by subst huu; exact hS
  have hrsu := fun k (k0 : 0 ≤ k) (k1 : k < u.nc) => hS.slhIn 5 rfl k0 k1
  refine zlas 201 (u := .agg #[.int .i64 u.vars, .int .i64 u.den, vq1, vq2, voq3]) (by subst huu; first | rfl | (congr 1)) ?_
  refine zlc (xc0 cl_114) (c_proper (t := u) w (⟨(hS.rowN 2 rfl), (hS.rowN 3 rfl), (⟨(hS.rowN 4 rfl), fun k k0 k1 => hS.rowIn 5 rfl k0 k1, fun k k0 k1 => hS.roomIn 5 rfl k0 k1⟩ : MAt _ voq3 u.nc vwq3 u.ln u.C)⟩ : TAt _ vq1 vq2 voq3 vwq3 u)) ?_; rintro _ w ⟨rfl, hS'⟩
  replace hS := hS.cmp hS'; clear hS'
  refine zlv xnot ?_
  refine zlt ?_
  refine zcif ?_ ?_ <;> intro hc
  ·
   refine zsr ?_
   refine zlv (xany (v := .agg #[.int .i64 0, .int .i64 0, .slice none 0 0, .slice none 0 0, .slice none 0 0])) ?_
   refine zle (xsw 1 st_108 hS) ?_; clear hS; rintro w hS
   replace hS := hS.n7
   refine zlv xas ?_
   refine zlt <| zrt <| ztr <| zfct 1 st_108 hS ⟨_, rfl, ?_⟩
   exact ⟨_, _, _, fun _ => undef, Tb.zero, 2, rfl, .inr (.inr (.inl ⟨⟨hp, by omega, by omega, by omega, by omega, hnz⟩, hdv', huu ▸ ‹¬ TPrp u›, rfl, rfl⟩)), slh_nil, slh_nil, slh_nil, ((((hS.sub (.cons _ (.cons _ (.cons _ (.cons _ (.cons _ (.cons _ (.cons _ .slnil)))))))).addnil 1 3 (ints Tb.zero.B)).addnil 1 3 (ints Tb.zero.F)).addnil 1 22 (fun _ => undef)).addrows 3 (fun _ => undef) Tb.zero.ln Tb.zero.C⟩
  refine zsk <| ztn <| zsr ?_
  refine zlv (xls 6 st_108 hS) ?_
  refine zle (xsw 1 st_108 hS (hd := (ones_cons rfl (ones_cons rfl (ones_cons hslnbu.one (ones_cons hslnfu.one (ones_cons hslncu.one ones_nil))))))) ?_; clear hS; rintro w hS
  replace hS := hS.n7
  refine zlv xas ?_
  refine zlt <| zrt <| zfct 1 st_108 hS ⟨_, rfl, ?_⟩
  exact ⟨_, _, _, _, u, 0, rfl, .inr (.inr (.inr ⟨⟨hp, by omega, by omega, by omega, by omega, hnz⟩, hdv', huu ▸ (Classical.not_not.1 ‹¬ ¬ (TPrp u)›), huu, rfl⟩)), hslnbu, hslnfu, hslncu, hS.pk [2, 3, 4, 5]⟩

end Go.Proofs.Ytopmifmfecfaaaa
