/- The library's Sort and Compact on a slice of the call's own. Over any program that lays them. -/
import Derived.Test.YtmlfpniaknmmfaaGi
namespace Go.Proofs.Gw
open Go Go.RowKit
set_option linter.unusedVariables false
set_option linter.unusedSimpArgs false

/-! Plain -/
theorem compact_facts (d : Array Int) (hd : ∀ i j, i ≤ j → j < d.size → d[i]! ≤ d[j]!) : ∀ m, m ≤ d.size →
    (Lib.compactUpTo d m).Pairwise (· < ·) ∧ (∀ a ∈ Lib.compactUpTo d m, ∃ i, i < m ∧ d[i]! = a) ∧ (∀ i, i < m → d[i]! ∈ Lib.compactUpTo d m) ∧ (∀ a ∈ Lib.compactUpTo d m, a ≤ d[m - 1]!)
  | 0, _ => ⟨by simp [Lib.compactUpTo], by simp [Lib.compactUpTo], by simp, by simp [Lib.compactUpTo]⟩
  | m + 1, hm => by
    obtain ⟨h1, h2, h3, h4⟩ := compact_facts d hd m (by omega)
    rw [Lib.compactUpTo_succ]
    by_cases hk : Lib.keeps d m = true
    · rw [if_pos hk]
      have hlt : ∀ a ∈ Lib.compactUpTo d m, a < d[m]! := fun a ha => by
        obtain ⟨i, hi, _⟩ := h2 a ha
        have h5 := h4 a ha
        have h6 := hd (m - 1) m (by omega) (by omega)
        have h7 : d[m]! ≠ d[m - 1]! := by
          unfold Lib.keeps at hk
          rw [decide_eq_true_eq] at hk
          rcases hk with hk | hk
          · omega
          · exact hk
        omega
      refine ⟨List.pairwise_append.2 ⟨h1, List.pairwise_singleton _ _, fun a ha b hb => by rw [List.mem_singleton] at hb; subst hb; exact hlt a ha⟩, fun a ha => ?_, fun i hi => ?_, fun a ha => ?_⟩
      · rcases List.mem_append.1 ha with ha | ha
        · obtain ⟨i, hi, e⟩ := h2 a ha; exact ⟨i, by omega, e⟩
        · rw [List.mem_singleton] at ha; exact ⟨m, by omega, ha.symm⟩
      · by_cases e : i = m
        · subst e; simp
        · exact List.mem_append_left _ (h3 i (by omega))
      · rcases List.mem_append.1 ha with ha | ha
        · have := hlt a ha; rw [Nat.add_sub_cancel]; omega
        · rw [List.mem_singleton] at ha; rw [ha, Nat.add_sub_cancel]; exact Int.le_refl _
    · have hk' : Lib.keeps d m = false := by simpa using hk
      rw [if_neg hk, List.append_nil]
      have h7 : 0 < m ∧ d[m]! = d[m - 1]! := by
        unfold Lib.keeps at hk'
        rw [decide_eq_false_iff_not] at hk'
        exact ⟨by omega, Classical.not_not.1 fun h => hk' (.inr h)⟩
      refine ⟨h1, fun a ha => by obtain ⟨i, hi, e⟩ := h2 a ha; exact ⟨i, by omega, e⟩, fun i hi => ?_, fun a ha => ?_⟩
      · by_cases e : i = m
        · subst e; rw [h7.2]; exact h3 _ (by omega)
        · exact h3 i (by omega)
      · rw [Nat.add_sub_cancel, h7.2]; exact h4 a ha
/-- Two rising lists with the same members are one. -/
theorem rise_unique : ∀ {l m : List Int}, l.Pairwise (· < ·) → m.Pairwise (· < ·) → (∀ a, a ∈ l ↔ a ∈ m) → l = m
  | [], [], _, _, _ => rfl
  | [], b :: m, _, _, h => absurd ((h b).2 (by simp)) (by simp)
  | a :: l, [], _, _, h => absurd ((h a).1 (by simp)) (by simp)
  | a :: l, b :: m, hl, hm, h => by
    obtain ⟨h1, h2⟩ := List.pairwise_cons.1 hl
    obtain ⟨h3, h4⟩ := List.pairwise_cons.1 hm
    have e : a = b := by
      rcases List.mem_cons.1 ((h a).1 (by simp)) with e | e
      · exact e
      · rcases List.mem_cons.1 ((h b).2 (by simp)) with e' | e'
        · exact e'.symm
        · have := h3 a e; have := h1 b e'; omega
    subst e
    congr 1
    refine rise_unique h2 h4 fun x => ⟨fun hx => ?_, fun hx => ?_⟩
    · rcases List.mem_cons.1 ((h x).1 (by simp [hx])) with e | e
      · have := h1 x hx; omega
      · exact e
    · rcases List.mem_cons.1 ((h x).2 (by simp [hx])) with e | e
      · have := h3 x hx; omega
      · exact e
/-- g holds on [0, n) what f holds there, rising. -/
structure SortOf (f : Int → Int) (n : Int) (g : Int → Int) : Prop where
  rise : ∀ i j, 0 ≤ i → i ≤ j → j < n → g i ≤ g j
  mem : ∀ a, (∃ k, 0 ≤ k ∧ k < n ∧ g k = a) ↔ ∃ k, 0 ≤ k ∧ k < n ∧ f k = a
theorem SortOf.of (f : Int → Int) (n : Int) (hn : 0 ≤ n) : SortOf f n (atOf ((listOf f n).mergeSort fun x y => decide (x ≤ y))) := by
  have hl : ((listOf f n).mergeSort fun x y => decide (x ≤ y)).length = n.toNat := by rw [List.length_mergeSort, listOf_length]
  have hs := List.pairwise_mergeSort (le := fun x y : Int => decide (x ≤ y)) (fun a b c h1 h2 => by simp only [decide_eq_true_eq] at *; omega) (fun a b => by simp only [Bool.or_eq_true, decide_eq_true_eq]; omega) (listOf f n)
  have e : listOf (atOf ((listOf f n).mergeSort fun x y => decide (x ≤ y))) n = (listOf f n).mergeSort fun x y => decide (x ≤ y) := by
    have := listOf_atOf ((listOf f n).mergeSort fun x y => decide (x ≤ y))
    rw [hl, show ((n.toNat : Nat) : Int) = n by omega] at this
    exact this
  refine ⟨fun i j h0 h1 h2 => ?_, fun a => ?_⟩
  · by_cases hij : i = j
    · subst hij; exact Int.le_refl _
    · have := List.pairwise_iff_getElem.1 hs i.toNat j.toNat (by omega) (by omega) (by omega)
      simp only [decide_eq_true_eq] at this
      unfold atOf
      rw [List.getD_eq_getElem?_getD, List.getD_eq_getElem?_getD, List.getElem?_eq_getElem (by omega), List.getElem?_eq_getElem (by omega)]
      exact this
  · rw [← mem_listOf, ← mem_listOf, e]
    exact (List.mergeSort_perm _ _).mem_iff
/-- l is what Compact makes of the rising numbers g. -/
structure CompOf (g : Int → Int) (n : Int) (l : List Int) : Prop where
  rise : l.Pairwise (· < ·)
  mem : ∀ a, a ∈ l ↔ ∃ k, 0 ≤ k ∧ k < n ∧ g k = a
  len : (l.length : Int) ≤ n
theorem CompOf.of {g : Int → Int} {n : Int} (hn : 0 ≤ n) (h : ∀ i j, 0 ≤ i → i ≤ j → j < n → g i ≤ g j) : CompOf g n (Lib.compact (listOf g n)) := by
  have hl := listOf_length g n
  have hget : ∀ i, i < n.toNat → (listOf g n).toArray[i]! = g i := fun i hi => by
    simp [listOf, hi]
  obtain ⟨h1, h2, h3, _⟩ := compact_facts (listOf g n).toArray (fun i j hij hj => by
    simp only [List.size_toArray, hl] at hj
    rw [hget i (by omega), hget j hj]; exact h i j (by omega) (by omega) (by omega)) (listOf g n).length (by simp)
  refine ⟨h1, fun a => ⟨fun ha => ?_, fun ⟨k, k0, k1, e⟩ => ?_⟩, ?_⟩
  · obtain ⟨i, hi, e⟩ := h2 a ha
    rw [hl] at hi
    rw [hget i hi] at e
    exact ⟨i, by omega, by omega, e⟩
  · have := h3 k.toNat (by rw [hl]; omega)
    rw [hget _ (by omega), Int.toNat_of_nonneg k0, e] at this
    exact this
  · have : (Lib.compact (listOf g n)).length ≤ (listOf g n).length := by
      unfold Lib.compact Lib.compactUpTo
      rw [List.length_map]
      exact Nat.le_trans (List.length_filter_le _ _) (by simp)
    omega

section
variable {P : Program} {w w0 : World} {l1 l2 : List Ent}
open Go.Sort
theorem sort_sat {fn : FuncId} (c0 : ∀ (p : Option Addr) (cap : Nat) (w : World), Calls P fn #[.slice p 0 cap] w fun e w' => e = .returned (.tuple #[]) ∧ w' = w)
    (c1 : ∀ (blk off cap : Nat) (zs : List Int) (w : World), Holds (Value.int .i64) w blk off zs.toArray → blk < w.heap.size → zs.length < 4611686018427387904 →
      Calls P fn #[.slice (some ⟨blk, off, none⟩) zs.length cap] w fun e w' => e = .returned (.tuple #[]) ∧ ∃ n os, w' = grow (putRow (Value.int .i64) (Sort.ahead w n) blk off (zs.mergeSort fun x y => decide (x ≤ y)).toArray) os)
    {v : Value} {E : TypeId} {n : Int} {f : Int → Int} (hS : Sat w0 w (l1 ++ .own v 1 E n (ints f) :: l2)) :
    Calls P fn #[v] w fun e w' => ∃ u, e = .returned u ∧ u = .tuple #[] ∧ ∃ g, SortOf f n g ∧ Sat w0 w' (l1 ++ .own v 1 E n (ints g) :: l2) := by
  obtain ⟨h0, h1, ⟨rfl, rfl⟩ | ⟨g, cap, cur, rfl, _⟩⟩ := hS.get
  · refine (c0 none 0 w).mono fun e w' ⟨he, hw⟩ => ⟨_, he, rfl, f, ⟨fun i j a b c => by omega, fun _ => Iff.rfl⟩, by rw [hw]; exact hS⟩
  · obtain ⟨hH, hlt, _, _⟩ := hS.held
    have hl := listOf_length f n
    have := c1 g 0 cap (listOf f n) w hH hlt (by rw [hl]; omega)
    rw [hl] at this
    refine this.mono fun e w' ⟨he, q, os, hw⟩ => ⟨_, he, rfl, _, SortOf.of f n h0, ?_⟩
    rw [hw]
    exact hS.put (by rw [List.length_mergeSort, hl])
/-- r is the head of the slice v. -/
def Pref (r v : Value) (m n : Int) : Prop := Slh r m ∧ m ≤ n ∧ ∀ k, 0 ≤ k → k < m → cad r k = cad v k
theorem Pref.row {r v : Value} {m n : Int} (h : Pref r v m n) {c : Int → Value} (hR : Row w v 1 n c) : Row w r 1 m c :=
  ⟨h.1, fun k hk => by
    have := h.1.n0; have h2 := h.2.1
    rw [h.2.2 k (by omega) (by simpa using hk)]
    exact hR.2 k (by simp at hk ⊢; omega)⟩
theorem Pref.slh {r v : Value} {m n : Int} (h : Pref r v m n) : Slh r m := h.1
theorem compact_sat {fn : FuncId} (c0 : ∀ (p : Option Addr) (cap : Nat) (w : World), Calls P fn #[.slice p 0 cap] w fun e w' => e = .returned (.slice p 0 cap) ∧ w' = w)
    (c1 : ∀ (blk off cap : Nat) (zs : List Int) (w : World), Holds (Value.int .i64) w blk off zs.toArray → zs.length ≤ 9223372036854775807 → zs.length ≤ cap →
      Calls P fn #[.slice (some ⟨blk, off, none⟩) zs.length cap] w fun e w' => e = .returned (.slice (some ⟨blk, off, none⟩) (Lib.compact zs).length cap) ∧ ∃ q, w' = putRow (Value.int .i64) (Sort.ahead w q) blk off (Lib.compact zs ++ List.replicate (zs.length - (Lib.compact zs).length) 0).toArray)
    {v : Value} {E : TypeId} {n : Int} {f : Int → Int} (hS : Sat w0 w (l1 ++ .own v 1 E n (ints f) :: l2)) (hf : ∀ i j, 0 ≤ i → i ≤ j → j < n → f i ≤ f j) :
    Calls P fn #[v] w fun e w' => ∃ u, e = .returned u ∧ ∃ (r : Value) (l : List Int) (g : Int → Int), u = r ∧ CompOf f n l ∧ Pref r v l.length n ∧ (∀ k, 0 ≤ k → k < (l.length : Int) → g k = atOf l k) ∧ (∀ k, (l.length : Int) ≤ k → g k = 0) ∧ Sat w0 w' (l1 ++ .own v 1 E n (ints g) :: l2) := by
  obtain ⟨h0, h1, ⟨rfl, rfl⟩ | ⟨g, cap, cur, rfl, _, hcap, _⟩⟩ := hS.get
  · refine (c0 none 0 w).mono fun e w' ⟨he, hw⟩ => ⟨_, he, _, [], fun _ => 0, rfl, ⟨.nil, fun a => by constructor; (intro h; cases h); (rintro ⟨k, a, b, _⟩; omega), by simp⟩, ⟨⟨by simp, by simp, _, _, rfl, .inl (by simp)⟩, by simp, fun _ _ _ => rfl⟩, fun k a b => by simp at b; omega, fun _ _ => rfl, ?_⟩
    rw [hw]
    exact ⟨hS.below, fun x hx => by
      rcases List.mem_append.1 hx with hx | hx
      · exact hS.holds x (by simp [hx])
      · rcases List.mem_cons.1 hx with rfl | hx
        · exact ⟨by omega, by omega, .inl ⟨rfl, rfl⟩⟩
        · exact hS.holds x (by simp [hx]), fun x hx => by
      rcases List.mem_append.1 hx with hx | hx
      · exact hS.new x (by simp [hx])
      · rcases List.mem_cons.1 hx with rfl | hx
        · intro g hg; simp [Ent.has, Value.ownBlock] at hg
        · exact hS.new x (by simp [hx]), by
      have h2 := List.pairwise_append.1 hS.sep
      have h3 := List.pairwise_cons.1 h2.2.1
      refine List.pairwise_append.2 ⟨h2.1, List.pairwise_cons.2 ⟨fun x hx g hg => by simp [Ent.has, Value.ownBlock] at hg, h3.2⟩, fun x hx y hy => ?_⟩
      rcases List.mem_cons.1 hy with rfl | hy
      · intro g _ hg; simp [Ent.has, Value.ownBlock] at hg
      · exact h2.2.2 x hx y (by simp [hy])⟩
  · obtain ⟨hH, hlt, _, hmx⟩ := hS.held
    have hl := listOf_length f n
    have hC := CompOf.of h0 hf
    have := c1 g 0 cap (listOf f n) w hH (by rw [hl]; omega) (by rw [hl]; exact hcap)
    rw [hl] at this
    have hlen := hC.len
    refine this.mono fun e w' ⟨he, q, hw⟩ => ⟨_, he, _, _, atOf (Lib.compact (listOf f n) ++ List.replicate (n.toNat - (Lib.compact (listOf f n)).length) 0), rfl, hC, ⟨⟨by omega, by omega, some ⟨g, 0, none⟩, cap, by simp, .inr ⟨_, _, rfl⟩⟩, hlen, fun _ _ _ => rfl⟩, fun k a b => ?_, fun k a => ?_, ?_⟩
    · unfold atOf
      rw [List.getD_eq_getElem?_getD, List.getD_eq_getElem?_getD, List.getElem?_append_left (by omega)]
    · unfold atOf
      rw [List.getD_eq_getElem?_getD, List.getElem?_append_right (by omega)]
      by_cases hk : k.toNat - (Lib.compact (listOf f n)).length < n.toNat - (Lib.compact (listOf f n)).length
      · rw [List.getElem?_replicate_of_lt hk]; rfl
      · rw [List.getElem?_eq_none (by simp; omega)]; rfl
    · have h3 := hS.put (q := q) (os := #[]) (ts := Lib.compact (listOf f n) ++ List.replicate (n.toNat - (Lib.compact (listOf f n)).length) 0) (by rw [List.length_append, List.length_replicate]; omega)
      rw [grow_empty] at h3
      rw [hw]; exact h3
end
end Go.Proofs.Gw
