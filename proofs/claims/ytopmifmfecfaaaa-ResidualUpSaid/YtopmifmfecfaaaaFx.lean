/- Sorting by names: arrangements, insertion, rotation, merging in place. Plain. -/
import Derived.Test.YtopmifmfecfaaaaGw
namespace Go.Proofs.Gw
set_option linter.unusedVariables false
/-! Orders of names. -/
/-- b is a arranged anew on [lo, hi). -/
def PermOn (lo hi : Int) (a b : Int → Int) : Prop := ∃ p q : Int → Int, (∀ k, p (q k) = k ∧ q (p k) = k) ∧ (∀ k, ¬ (lo ≤ k ∧ k < hi) → p k = k) ∧ ∀ k, b k = a (p k)
theorem PermOn.refl (lo hi : Int) (a : Int → Int) : PermOn lo hi a a := ⟨id, id, fun _ => ⟨rfl, rfl⟩, fun _ _ => rfl, fun _ => rfl⟩
theorem PermOn.trans {lo hi : Int} {a b c : Int → Int} (h : PermOn lo hi a b) (k : PermOn lo hi b c) : PermOn lo hi a c := by
  obtain ⟨p, q, h1, h2, h3⟩ := h
  obtain ⟨p', q', k1, k2, k3⟩ := k
  refine ⟨fun x => p (p' x), fun x => q' (q x), fun x => ⟨?_, ?_⟩, fun x hx => ?_, fun x => ?_⟩
  · show p (p' (q' (q x))) = x
    rw [(k1 _).1, (h1 _).1]
  · show q' (q (p (p' x))) = x
    rw [(h1 _).2, (k1 _).2]
  · show p (p' x) = x
    rw [k2 x hx, h2 x hx]
  · rw [k3, h3]
theorem PermOn.mono {lo hi lo' hi' : Int} {a b : Int → Int} (h : PermOn lo hi a b) (h0 : lo' ≤ lo) (h1 : hi ≤ hi') : PermOn lo' hi' a b := by
  obtain ⟨p, q, h2, h3, h4⟩ := h
  exact ⟨p, q, h2, fun k hk => h3 k (by omega), h4⟩
theorem PermOn.out {lo hi : Int} {a b : Int → Int} (h : PermOn lo hi a b) {k : Int} (hk : ¬ (lo ≤ k ∧ k < hi)) : b k = a k := by
  obtain ⟨p, q, h2, h3, h4⟩ := h
  rw [h4, h3 k hk]
/-- Each of b's names there is one of a's there. -/
theorem PermOn.fr {lo hi : Int} {a b : Int → Int} (h : PermOn lo hi a b) {k : Int} (k0 : lo ≤ k) (k1 : k < hi) : ∃ j, lo ≤ j ∧ j < hi ∧ b k = a j := by
  obtain ⟨p, q, h2, h3, h4⟩ := h
  by_cases hj : lo ≤ p k ∧ p k < hi
  · exact ⟨p k, hj.1, hj.2, h4 k⟩
  · have h5 := h3 (p k) hj
    have h6 : p k = k := by
      have := congrArg q h5
      rw [(h2 _).2, (h2 _).2] at this; exact this
    rw [h6] at hj
    exact absurd ⟨k0, k1⟩ hj
theorem PermOn.symm {lo hi : Int} {a b : Int → Int} (h : PermOn lo hi a b) : PermOn lo hi b a := by
  obtain ⟨p, q, h2, h3, h4⟩ := h
  refine ⟨q, p, fun k => ⟨(h2 k).2, (h2 k).1⟩, fun k hk => ?_, fun k => ?_⟩
  · have := congrArg q (h3 k hk)
    rw [(h2 k).2] at this; exact this.symm
  · rw [h4, (h2 k).1]
/-- Two places change their names. -/
def swp (a : Int → Int) (i j : Int) : Int → Int := fun k => if k = i then a j else if k = j then a i else a k
theorem swp_perm {a : Int → Int} {i j lo hi : Int} (i0 : lo ≤ i) (i1 : i < hi) (j0 : lo ≤ j) (j1 : j < hi) : PermOn lo hi a (swp a i j) := by
  have e : ∀ k, (fun k => if k = i then j else if k = j then i else k : Int → Int) ((fun k => if k = i then j else if k = j then i else k : Int → Int) k) = k := fun k => by
    dsimp only; split <;> (try split) <;> (try split) <;> (try split) <;> omega
  refine ⟨fun k => if k = i then j else if k = j then i else k, fun k => if k = i then j else if k = j then i else k, fun k => ⟨e k, e k⟩, fun k hk => ?_, fun k => ?_⟩
  · dsimp only; rw [if_neg (by omega), if_neg (by omega)]
  · unfold swp; dsimp only; split
    · rfl
    · split <;> rfl
/-- What of a lies in [lo, hi), is sorted by R. -/
def Srt (R : Int → Int → Prop) (lo hi : Int) (a : Int → Int) : Prop := ∀ i j, lo ≤ i → i < j → j < hi → R (a i) (a j)
theorem Srt.mono {R : Int → Int → Prop} {lo hi lo' hi' : Int} {a : Int → Int} (h : Srt R lo hi a) (h0 : lo ≤ lo') (h1 : hi' ≤ hi) : Srt R lo' hi' a := fun i j i0 ij j1 => h i j (by omega) ij (by omega)
theorem Srt.congr {R : Int → Int → Prop} {lo hi : Int} {a b : Int → Int} (h : Srt R lo hi a) (e : ∀ k, lo ≤ k → k < hi → b k = a k) : Srt R lo hi b := fun i j i0 ij j1 => by
  rw [e i i0 (by omega), e j (by omega) j1]; exact h i j i0 ij j1
/-- The order of a comparison, equals by their names. -/
def Tie (lt : Int → Int → Prop) : Int → Int → Prop := fun x y => lt x y ∨ (¬ lt y x ∧ x < y)
structure Swo (lt : Int → Int → Prop) : Prop where
  asym : ∀ x y, lt x y → ¬ lt y x
  trans : ∀ x y z, lt x y → lt y z → lt x z
  inc : ∀ x y z, ¬ lt x y → ¬ lt y z → ¬ lt x z
theorem Tie.trans {lt : Int → Int → Prop} (h : Swo lt) {x y z : Int} (a : Tie lt x y) (b : Tie lt y z) : Tie lt x z := by
  rcases a with a | ⟨a1, a2⟩ <;> rcases b with b | ⟨b1, b2⟩
  · exact .inl (h.trans _ _ _ a b)
  · left; exact Classical.byContradiction fun hn => h.inc _ _ _ hn b1 a
  · left; exact Classical.byContradiction fun hn => h.inc _ _ _ a1 hn b
  · exact .inr ⟨h.inc _ _ _ b1 a1, by omega⟩
theorem Tie.asym {lt : Int → Int → Prop} (h : Swo lt) {x y : Int} (a : Tie lt x y) : ¬ Tie lt y x := by
  rintro (b | ⟨b1, b2⟩)
  · rcases a with a | ⟨a1, a2⟩
    · exact h.asym _ _ a b
    · exact a1 b
  · rcases a with a | ⟨a1, a2⟩
    · exact b1 a
    · omega
/-- y's name is the greater one. -/
theorem Tie.of {lt : Int → Int → Prop} (h : Swo lt) {x y : Int} (hxy : x < y) (hn : ¬ lt y x) : Tie lt x y := by
  by_cases hl : lt x y
  · exact .inl hl
  · exact .inr ⟨hn, hxy⟩
/-- Each name of [lo, c) is below each of [c, hi). -/
def Parted (lo c hi : Int) (a : Int → Int) : Prop := ∀ i j, lo ≤ i → i < c → c ≤ j → j < hi → a i < a j
theorem Parted.perm {lo c hi : Int} {a b : Int → Int} (h : Parted lo c hi a) (hp : ∃ m, PermOn lo c a m ∧ PermOn c hi m b) : Parted lo c hi b := fun i j i0 i1 j0 j1 => by
  obtain ⟨m, h1, h2⟩ := hp
  obtain ⟨i', g0, g1, g2⟩ := h1.fr i0 i1
  obtain ⟨j', f0, f1, f2⟩ := h2.fr j0 j1
  rw [h2.out (by omega), g2, f2, h1.out (by omega)]
  exact h i' j' g0 g1 f0 f1
/-- Names that rise. -/
def Incr (lo hi : Int) (a : Int → Int) : Prop := ∀ i j, lo ≤ i → i < j → j < hi → a i < a j

/-! Insertion -/
structure Ins (lt : Int → Int → Prop) (lo i j : Int) (a b : Int → Int) : Prop where
  perm : PermOn lo (i + 1) a b
  rest : ∀ p q, lo ≤ p → p < q → q ≤ i → p ≠ j → q ≠ j → Tie lt (b p) (b q)
  less : ∀ q, j < q → q ≤ i → Tie lt (b j) (b q)
  big : ∀ p, lo ≤ p → p < j → b p < b j
theorem Ins.start {lt : Int → Int → Prop} {lo i : Int} {a : Int → Int} (i0 : lo ≤ i) (hs : Srt (Tie lt) lo i a) (hb : ∀ p, lo ≤ p → p < i → a p < a i) : Ins lt lo i i a a :=
  ⟨.refl _ _ _, fun p q p0 pq q1 pi qi => hs p q p0 pq (by omega), fun q q0 q1 => by omega, hb⟩
theorem Ins.step {lt : Int → Int → Prop} {lo i j : Int} {a b : Int → Int} (j0 : lo < j) (j1 : j ≤ i) (h : Ins lt lo i j a b) (hl : lt (b j) (b (j - 1))) : Ins lt lo i (j - 1) a (swp b j (j - 1)) := by
  have e0 : swp b j (j - 1) j = b (j - 1) := by unfold swp; rw [if_pos rfl]
  have e1 : swp b j (j - 1) (j - 1) = b j := by unfold swp; rw [if_neg (by omega), if_pos rfl]
  have e2 : ∀ k, k ≠ j → k ≠ j - 1 → swp b j (j - 1) k = b k := fun k h1 h2 => by unfold swp; rw [if_neg h1, if_neg h2]
  refine ⟨h.perm.trans (swp_perm (by omega) (by omega) (by omega) (by omega)), fun p q p0 pq q1 pj qj => ?_, fun q q0 q1 => ?_, fun p p0 p1 => ?_⟩
  · by_cases hp : p = j
    · rw [hp, e0, e2 q (by omega) qj]; exact h.rest (j - 1) q (by omega) (by omega) q1 (by omega) (by omega)
    · rw [e2 p hp pj]
      by_cases hq : q = j
      · rw [hq, e0]; exact h.rest p (j - 1) p0 (by omega) (by omega) hp (by omega)
      · rw [e2 q hq qj]; exact h.rest p q p0 pq q1 hp hq
  · rw [e1]
    by_cases hq : q = j
    · rw [hq, e0]; exact .inl hl
    · rw [e2 q hq (by omega)]; exact h.less q (by omega) q1
  · rw [e1, e2 p (by omega) (by omega)]; exact h.big p p0 (by omega)
theorem Ins.fin {lt : Int → Int → Prop} (hw : Swo lt) {lo i j : Int} {a b : Int → Int} (j0 : lo ≤ j) (j1 : j ≤ i) (h : Ins lt lo i j a b) (hl : j = lo ∨ ¬ lt (b j) (b (j - 1))) : Srt (Tie lt) lo (i + 1) b := fun p q p0 pq q1 => by
  have hle : ∀ p, lo ≤ p → p < j → Tie lt (b p) (b j) := fun p p0 p1 => by
    rcases hl with hl | hl
    · omega
    · have h1 : Tie lt (b (j - 1)) (b j) := Tie.of hw (h.big (j - 1) (by omega) (by omega)) hl
      by_cases hp : p = j - 1
      · rw [hp]; exact h1
      · exact (h.rest p (j - 1) p0 (by omega) (by omega) (by omega) (by omega)).trans hw h1
  by_cases hp : p = j
  · rw [hp]; exact h.less q (by omega) (by omega)
  · by_cases hq : q = j
    · rw [hq]; exact hle p p0 (by omega)
    · exact h.rest p q p0 pq (by omega) hp hq

/-! Rotation -/
/-- [x, x + n) and [y, y + n) change places. -/
def swr (a : Int → Int) (x y n : Int) : Int → Int := fun k => if x ≤ k ∧ k < x + n then a (k - x + y) else if y ≤ k ∧ k < y + n then a (k - y + x) else a k
theorem swr_zero (a : Int → Int) (x y : Int) : swr a x y 0 = a := by
  funext k; unfold swr; rw [if_neg (by omega), if_neg (by omega)]
theorem swr_next {a : Int → Int} {x y i : Int} (h0 : 0 ≤ i) (h : x + i < y ∨ y + i < x) (hd : x + i < y ∨ y + i < x) (hx : x ≤ y) : swp (swr a x y i) (x + i) (y + i) = swr a x y (i + 1) := by
  funext k; unfold swp swr
  by_cases h1 : k = x + i
  · subst h1
    rw [if_pos rfl, if_neg (by omega), if_neg (by omega), if_pos (by omega)]; congr 1 <;> omega
  · rw [if_neg h1]
    by_cases h2 : k = y + i
    · subst h2
      rw [if_pos rfl, if_neg (by omega), if_neg (by omega), if_neg (by omega), if_pos (by omega)]; congr 1 <;> omega
    · rw [if_neg h2]
      by_cases h3 : x ≤ k ∧ k < x + i
      · rw [if_pos h3, if_pos (by omega)]
      · rw [if_neg h3]
        by_cases h4 : y ≤ k ∧ k < y + i
        · rw [if_pos h4, if_neg (by omega), if_pos (by omega)]
        · rw [if_neg h4, if_neg (by omega), if_neg (by omega)]
/-- [lo, c) and [c, hi) in the other order. -/
def rot (a : Int → Int) (lo c hi : Int) : Int → Int := fun k => if lo ≤ k ∧ k < lo + (hi - c) then a (k + (c - lo)) else if lo + (hi - c) ≤ k ∧ k < hi then a (k - (hi - c)) else a k
theorem rot_left {a : Int → Int} {c i j : Int} (h0 : 1 ≤ j) (h : j < i) : rot (swr a (c - i) c j) (c - i + j) c (c + j) = rot a (c - i) c (c + j) := by
  funext k; unfold rot swr
  by_cases h1 : c - i ≤ k ∧ k < c - i + j
  · rw [if_neg (by omega), if_neg (by omega), if_pos h1, if_pos (by omega)]; congr 1 <;> omega
  · by_cases h2 : c - i + j ≤ k ∧ k < c - i + j + j
    · rw [if_pos (by omega), if_neg (show ¬ (c - i ≤ k ∧ k < c - i + (c + j - c)) by omega), if_pos (show c - i + (c + j - c) ≤ k ∧ k < c + j by omega)]
      by_cases h3 : c - i ≤ k + (c - (c - i + j)) ∧ k + (c - (c - i + j)) < c - i + j
      · exfalso; omega
      · rw [if_neg h3]
        by_cases h4 : c ≤ k + (c - (c - i + j)) ∧ k + (c - (c - i + j)) < c + j
        · rw [if_pos h4]; congr 1 <;> omega
        · exfalso; omega
    · by_cases h3 : c - i + j + j ≤ k ∧ k < c + j
      · rw [if_neg (by (try omega)), if_pos (by (try omega)), if_neg (by (try omega)), if_neg (by (try omega)), if_neg (by (try omega)), if_pos (by (try omega))]
      · rw [if_neg (by omega), if_neg (by omega), if_neg (by omega), if_neg (by omega), if_neg (by omega), if_neg (by omega)]
theorem rot_right {a : Int → Int} {c i j : Int} (h0 : 1 ≤ i) (h : i < j) : rot (swr a (c - i) (c + j - i) i) (c - i) c (c + j - i) = rot a (c - i) c (c + j) := by
  funext k; unfold rot swr
  by_cases h1 : c - i ≤ k ∧ k < c + j - i - i
  · rw [if_pos (by omega), if_neg (by omega), if_neg (by omega), if_pos (by omega)]
  · by_cases h2 : c + j - i - i ≤ k ∧ k < c + j - i
    · by_cases h5 : k < c - i
      · exfalso; omega
      · rw [if_neg (by omega), if_pos (by omega), if_pos (by omega), if_pos (by omega)]; congr 1 <;> omega
    · by_cases h3 : c + j - i ≤ k ∧ k < c + j
      · rw [if_neg (by omega), if_neg (by omega), if_neg (by omega), if_pos (by omega), if_neg (by omega), if_pos (by omega)]; congr 1 <;> omega
      · rw [if_neg (by omega), if_neg (by omega), if_neg (by omega), if_neg (by omega), if_neg (by omega), if_neg (by omega)]
theorem rot_even {a : Int → Int} {c i : Int} (h0 : 0 ≤ i) : swr a (c - i) c i = rot a (c - i) c (c + i) := by
  funext k; unfold rot swr
  by_cases h1 : c - i ≤ k ∧ k < c
  · rw [if_pos (by omega), if_pos (by omega)]; congr 1 <;> omega
  · by_cases h2 : c ≤ k ∧ k < c + i
    · rw [if_neg (by omega), if_pos (by omega), if_neg (by omega), if_pos (by omega)]; congr 1 <;> omega
    · rw [if_neg (by omega), if_neg (by omega), if_neg (by omega), if_neg (by omega)]
theorem rot_perm {a : Int → Int} {lo c hi : Int} (h0 : lo ≤ c) (h1 : c ≤ hi) : PermOn lo hi a (rot a lo c hi) := by
  refine ⟨fun k => if lo ≤ k ∧ k < lo + (hi - c) then k + (c - lo) else if lo + (hi - c) ≤ k ∧ k < hi then k - (hi - c) else k, fun k => if lo ≤ k ∧ k < c then k + (hi - c) else if c ≤ k ∧ k < hi then k - (c - lo) else k, fun k => ⟨?_, ?_⟩, fun k hk => ?_, fun k => ?_⟩
  · dsimp only
    by_cases g1 : lo ≤ k ∧ k < c
    · rw [if_pos g1, if_neg (by omega), if_pos (by omega)]; omega
    · rw [if_neg g1]
      by_cases g2 : c ≤ k ∧ k < hi
      · rw [if_pos g2, if_pos (by omega)]; omega
      · rw [if_neg g2, if_neg (by omega), if_neg (by omega)]
  · dsimp only
    by_cases g1 : lo ≤ k ∧ k < lo + (hi - c)
    · rw [if_pos g1, if_neg (by omega), if_pos (by omega)]; omega
    · rw [if_neg g1]
      by_cases g2 : lo + (hi - c) ≤ k ∧ k < hi
      · rw [if_pos g2, if_pos (by omega)]; omega
      · rw [if_neg g2, if_neg (by omega), if_neg (by omega)]
  · dsimp only; rw [if_neg (by omega), if_neg (by omega)]
  · unfold rot; dsimp only; split
    · rfl
    · split <;> rfl

/-! Merging in place -/
theorem shl_zero (a : Int → Int) (lo : Int) : rot a lo (lo + 1) (lo + 1) = a := by
  funext k; unfold rot
  by_cases h : lo ≤ k ∧ k < lo + 1
  · rw [if_neg (by omega), if_pos (by omega)]; congr 1 <;> omega
  · rw [if_neg (by omega), if_neg (by omega)]
theorem shl_next {a : Int → Int} {lo k : Int} (h : lo ≤ k) : swp (rot a lo (lo + 1) (k + 1)) k (k + 1) = rot a lo (lo + 1) (k + 1 + 1) := by
  funext j; unfold swp rot
  by_cases h1 : j = k
  · subst h1
    rw [if_pos rfl, if_neg (by omega), if_neg (by omega), if_pos (by omega)]; congr 1 <;> omega
  · rw [if_neg h1]
    by_cases h2 : j = k + 1
    · subst h2
      rw [if_pos rfl, if_neg (by omega), if_pos (by omega), if_neg (by omega), if_pos (by omega)]; congr 1 <;> omega
    · rw [if_neg h2]
      by_cases h3 : lo ≤ j ∧ j < k
      · rw [if_pos (by omega), if_pos (by omega)]
      · rw [if_neg (by omega), if_neg (by omega), if_neg (by omega), if_neg (by omega)]
theorem shr_zero (a : Int → Int) (c : Int) : rot a c c (c + 1) = a := by
  funext k; unfold rot
  by_cases h : c ≤ k ∧ k < c + 1
  · rw [if_pos (by omega)]; congr 1 <;> omega
  · rw [if_neg (by omega), if_neg (by omega)]
theorem shr_next {a : Int → Int} {c k : Int} (h : k ≤ c) : swp (rot a k c (c + 1)) k (k - 1) = rot a (k - 1) c (c + 1) := by
  funext j; unfold swp rot
  by_cases h1 : j = k
  · subst h1
    rw [if_pos rfl, if_neg (by omega), if_neg (by omega), if_neg (by omega), if_pos (by omega)]; congr 1 <;> omega
  · rw [if_neg h1]
    by_cases h2 : j = k - 1
    · subst h2
      rw [if_pos rfl, if_pos (by omega), if_pos (by omega)]; congr 1 <;> omega
    · rw [if_neg h2]
      by_cases h3 : k + 1 ≤ j ∧ j < c + 1
      · rw [if_neg (by omega), if_pos (by omega), if_neg (by omega), if_pos (by omega)]
      · rw [if_neg (by omega), if_neg (by omega), if_neg (by omega), if_neg (by omega)]
theorem merge_one {lt : Int → Int → Prop} (hw : Swo lt) {a b e : Int} {s : Int → Int} (hs : Srt (Tie lt) (a + 1) b s) (hb : ∀ j, a + 1 ≤ j → j < b → s a < s j) (e0 : a + 1 ≤ e) (e1 : e ≤ b)
    (h1 : e = a + 1 ∨ lt (s (e - 1)) (s a)) (h2 : e = b ∨ ¬ lt (s e) (s a)) : Srt (Tie lt) a b (rot s a (a + 1) e) := fun i j i0 ij j1 => by
  have r1 : ∀ k, a ≤ k → k < e - 1 → rot s a (a + 1) e k = s (k + 1) := fun k k0 k1 => by unfold rot; rw [if_pos (by omega)]; congr 1 <;> omega
  have r2 : rot s a (a + 1) e (e - 1) = s a := by unfold rot; rw [if_neg (by omega), if_pos (by omega)]; congr 1 <;> omega
  have r3 : ∀ k, e ≤ k → rot s a (a + 1) e k = s k := fun k k0 => by unfold rot; rw [if_neg (by omega), if_neg (by omega)]
  by_cases hi : i < e - 1
  · rw [r1 i i0 hi]
    by_cases hj : j < e - 1
    · rw [r1 j (by omega) hj]; exact hs _ _ (by omega) (by omega) (by omega)
    · by_cases hj2 : j = e - 1
      · rw [hj2, r2]
        rcases h1 with h1 | h1
        · omega
        · by_cases hie : i + 1 = e - 1
          · rw [hie]; exact .inl h1
          · exact (hs (i + 1) (e - 1) (by omega) (by omega) (by omega)).trans hw (.inl h1)
      · rw [r3 j (by omega)]; exact hs _ _ (by omega) (by omega) j1
  · by_cases hi2 : i = e - 1
    · rw [hi2, r2, r3 j (by omega)]
      rcases h2 with h2 | h2
      · omega
      · have h3 : Tie lt (s a) (s e) := Tie.of hw (hb e e0 (by omega)) h2
        by_cases hje : j = e
        · rw [hje]; exact h3
        · exact h3.trans hw (hs e j e0 (by omega) j1)
    · rw [r3 i (by omega), r3 j (by omega)]; exact hs i j (by omega) ij j1
theorem merge_last {lt : Int → Int → Prop} (hw : Swo lt) {a m e : Int} {s : Int → Int} (hs : Srt (Tie lt) a m s) (hb : ∀ i, a ≤ i → i < m → s i < s m) (e0 : a ≤ e) (e1 : e ≤ m)
    (h1 : e = a ∨ ¬ lt (s m) (s (e - 1))) (h2 : e = m ∨ lt (s m) (s e)) : Srt (Tie lt) a (m + 1) (rot s e m (m + 1)) := fun i j i0 ij j1 => by
  have r1 : ∀ k, k < e → rot s e m (m + 1) k = s k := fun k k0 => by unfold rot; rw [if_neg (by omega), if_neg (by omega)]
  have r2 : rot s e m (m + 1) e = s m := by unfold rot; rw [if_pos (by omega)]; congr 1 <;> omega
  have r3 : ∀ k, e < k → k < m + 1 → rot s e m (m + 1) k = s (k - 1) := fun k k0 k1 => by unfold rot; rw [if_neg (by omega), if_pos (by omega)]; congr 1 <;> omega
  have hlo : ∀ i, a ≤ i → i < e → Tie lt (s i) (s m) := fun i i0 i1 => by
    rcases h1 with h1 | h1
    · omega
    · have h3 : Tie lt (s (e - 1)) (s m) := Tie.of hw (hb (e - 1) (by omega) (by omega)) h1
      by_cases hie : i = e - 1
      · rw [hie]; exact h3
      · exact (hs i (e - 1) i0 (by omega) (by omega)).trans hw h3
  by_cases hi : i < e
  · rw [r1 i hi]
    by_cases hj : j < e
    · rw [r1 j hj]; exact hs i j i0 ij (by omega)
    · by_cases hj2 : j = e
      · rw [hj2, r2]; exact hlo i i0 hi
      · rw [r3 j (by omega) j1]; exact hs i (j - 1) i0 (by omega) (by omega)
  · by_cases hi2 : i = e
    · rw [hi2, r2, r3 j (by omega) j1]
      rcases h2 with h2 | h2
      · omega
      · by_cases hje : j - 1 = e
        · rw [hje]; exact .inl h2
        · exact Tie.trans hw (.inl h2) (hs e (j - 1) e0 (by omega) (by omega))
    · rw [r3 i (by omega) (by omega), r3 j (by omega) j1]; exact hs (i - 1) (j - 1) (by omega) (by omega) (by omega)
/-- The two halves behind a rotation. -/
structure Halves (lt : Int → Int → Prop) (a s mid e b : Int) (t : Int → Int) : Prop where
  l1 : Srt (Tie lt) a s t
  l2 : Srt (Tie lt) s mid t
  r1 : Srt (Tie lt) mid e t
  r2 : Srt (Tie lt) e b t
  pl : Parted a s mid t
  pr : Parted mid e b t
  cross : ∀ i j, a ≤ i → i < mid → mid ≤ j → j < b → Tie lt (t i) (t j)
theorem merge_halves {lt : Int → Int → Prop} (hw : Swo lt) {a m b s mid e : Int} {t : Int → Int} (h1 : Srt (Tie lt) a m t) (h2 : Srt (Tie lt) m b t) (hp : Parted a m b t) (he : s + e = mid + m) (s0 : a ≤ s) (s1 : s ≤ m) (e0 : m ≤ e) (e1 : e ≤ b)
    (g1 : s = a ∨ e = b ∨ ¬ lt (t e) (t (s - 1))) (g2 : s = m ∨ e = m ∨ lt (t (e - 1)) (t s)) : Halves lt a s mid e b (rot t s m e) := by
  have r0 : ∀ k, k < s → rot t s m e k = t k := fun k k0 => by unfold rot; rw [if_neg (by omega), if_neg (by omega)]
  have r1 : ∀ k, s ≤ k → k < mid → rot t s m e k = t (k + (m - s)) := fun k k0 k1 => by unfold rot; rw [if_pos (by omega)]
  have r2 : ∀ k, mid ≤ k → k < e → rot t s m e k = t (k - (e - m)) := fun k k0 k1 => by unfold rot; rw [if_neg (by omega), if_pos (by omega)]
  have r3 : ∀ k, e ≤ k → rot t s m e k = t k := fun k k0 => by unfold rot; rw [if_neg (by omega), if_neg (by omega)]
  have c1 : ∀ i j, a ≤ i → i < s → e ≤ j → j < b → Tie lt (t i) (t j) := fun i j i0 i1 j0 j1 => by
    rcases g1 with g1 | g1 | g1
    · omega
    · omega
    · have h3 : Tie lt (t (s - 1)) (t e) := Tie.of hw (hp (s - 1) e (by omega) (by omega) e0 (by omega)) g1
      have h4 : Tie lt (t i) (t e) := by
        by_cases hi : i = s - 1
        · rw [hi]; exact h3
        · exact (h1 i (s - 1) i0 (by omega) (by omega)).trans hw h3
      by_cases hj : j = e
      · rw [hj]; exact h4
      · exact h4.trans hw (h2 e j e0 (by omega) j1)
  have c2 : ∀ i j, m ≤ i → i < e → s ≤ j → j < m → Tie lt (t i) (t j) := fun i j i0 i1 j0 j1 => by
    rcases g2 with g2 | g2 | g2
    · omega
    · omega
    · have h4 : Tie lt (t i) (t s) := by
        by_cases hi : i = e - 1
        · rw [hi]; exact .inl g2
        · exact (h2 i (e - 1) i0 (by omega) (by omega)).trans hw (.inl g2)
      by_cases hj : j = s
      · rw [hj]; exact h4
      · exact h4.trans hw (h1 s j (by omega) (by omega) j1)
  refine ⟨fun i j i0 ij j1 => ?_, fun i j i0 ij j1 => ?_, fun i j i0 ij j1 => ?_, fun i j i0 ij j1 => ?_, fun i j i0 i1 j0 j1 => ?_, fun i j i0 i1 j0 j1 => ?_, fun i j i0 i1 j0 j1 => ?_⟩
  · rw [r0 i (by omega), r0 j j1]; exact h1 i j i0 ij (by omega)
  · rw [r1 i i0 (by omega), r1 j (by omega) j1]; exact h2 _ _ (by omega) (by omega) (by omega)
  · rw [r2 i i0 (by omega), r2 j (by omega) j1]; exact h1 _ _ (by omega) (by omega) (by omega)
  · rw [r3 i i0, r3 j (by omega)]; exact h2 _ _ (by omega) (by omega) (by omega)
  · rw [r0 i i1, r1 j j0 j1]; exact hp _ _ i0 (by omega) (by omega) (by omega)
  · rw [r2 i i0 i1, r3 j j0]; exact hp _ _ (by omega) (by omega) (by omega) (by omega)
  · by_cases hi : i < s
    · rw [r0 i hi]
      by_cases hj : j < e
      · rw [r2 j j0 hj]; exact h1 _ _ (by omega) (by omega) (by omega)
      · rw [r3 j (by omega)]; exact c1 i j i0 hi (by omega) j1
    · rw [r1 i (by omega) i1]
      by_cases hj : j < e
      · rw [r2 j j0 hj]; exact c2 _ _ (by omega) (by omega) (by omega) (by omega)
      · rw [r3 j (by omega)]; exact h2 _ _ (by omega) (by omega) (by omega)
/-- Where one half is a run already. -/
theorem Halves.left {lt : Int → Int → Prop} {a s mid e b : Int} {t : Int → Int} (h : Halves lt a s mid e b t) (hn : ¬ (a < s ∧ s < mid)) (s0 : a ≤ s) (s1 : s ≤ mid) : Srt (Tie lt) a mid t := by
  by_cases h1 : a < s
  · obtain rfl : s = mid := by omega
    exact h.l1
  · obtain rfl : a = s := by omega
    exact h.l2
theorem Halves.right {lt : Int → Int → Prop} {a s mid e b : Int} {t : Int → Int} (h : Halves lt a s mid e b t) (hn : ¬ (mid < e ∧ e < b)) (s0 : mid ≤ e) (s1 : e ≤ b) : Srt (Tie lt) mid b t := by
  by_cases h1 : mid < e
  · obtain rfl : e = b := by omega
    exact h.r1
  · obtain rfl : mid = e := by omega
    exact h.r2
theorem Halves.keep {lt : Int → Int → Prop} {a s mid e b : Int} {t u : Int → Int} (h : Halves lt a s mid e b t) (hp : PermOn a mid t u) : Srt (Tie lt) mid e u ∧ Srt (Tie lt) e b u ∧ Parted mid e b u ∨ e < mid := by
  by_cases he : mid ≤ e
  · refine .inl ⟨h.r1.congr fun k k0 k1 => hp.out (by omega), h.r2.congr fun k k0 k1 => hp.out (by omega), fun i j i0 i1 j0 j1 => ?_⟩
    rw [hp.out (by omega), hp.out (by omega)]; exact h.pr i j i0 i1 j0 j1
  · exact .inr (by omega)
theorem Halves.join {lt : Int → Int → Prop} (hw : Swo lt) {a s mid e b : Int} {t u v : Int → Int} (h : Halves lt a s mid e b t) (a0 : a ≤ mid) (b0 : mid ≤ b) (h1 : PermOn a mid t u) (h2 : Srt (Tie lt) a mid u) (h3 : PermOn mid b u v) (h4 : Srt (Tie lt) mid b v) : Srt (Tie lt) a b v := fun i j i0 ij j1 => by
  by_cases hj : j < mid
  · rw [h3.out (by omega), h3.out (by omega)]; exact h2 i j i0 ij hj
  · by_cases hi : i < mid
    · rw [h3.out (by omega)]
      obtain ⟨i', g0, g1, g2⟩ := h1.fr i0 hi
      obtain ⟨j', f0, f1, f2⟩ := h3.fr (show mid ≤ j by omega) j1
      rw [g2, f2, h1.out (by omega)]
      exact h.cross i' j' g0 g1 f0 f1
    · exact h4 i j (by omega) ij j1

/-! Runs of a length -/
theorem Parted.keep {lo c hi x y : Int} {a b : Int → Int} (h : Parted lo c hi a) (hp : PermOn x y a b) (x0 : lo ≤ x) (y0 : y ≤ hi) (hc : y ≤ c ∨ c ≤ x) : Parted lo c hi b := fun i j i0 i1 j0 j1 => by
  have gi : ∃ i', lo ≤ i' ∧ i' < c ∧ b i = a i' := by
    by_cases hx : x ≤ i ∧ i < y
    · obtain ⟨i', g0, g1, g2⟩ := hp.fr hx.1 hx.2
      exact ⟨i', by omega, by omega, g2⟩
    · exact ⟨i, i0, i1, hp.out hx⟩
  have gj : ∃ j', c ≤ j' ∧ j' < hi ∧ b j = a j' := by
    by_cases hx : x ≤ j ∧ j < y
    · obtain ⟨j', g0, g1, g2⟩ := hp.fr hx.1 hx.2
      exact ⟨j', by omega, by omega, g2⟩
    · exact ⟨j, j0, j1, hp.out hx⟩
  obtain ⟨i', a1, a2, a3⟩ := gi
  obtain ⟨j', b1, b2, b3⟩ := gj
  rw [a3, b3]; exact h i' j' a1 a2 b1 b2
/-- Runs of length s from x on, below y. -/
def Runs_ (lt : Int → Int → Prop) (s n x y : Int) (t : Int → Int) : Prop := ∀ c, x ≤ c → c < y → s ∣ c → Srt (Tie lt) c (min (c + s) n) t ∧ Parted 0 c n t
theorem Runs_.keep {lt : Int → Int → Prop} {s n x y p q : Int} {t u : Int → Int} (h : Runs_ lt s n x y t) (hp : PermOn p q t u) (p0 : 0 ≤ p) (q0 : q ≤ n) (hc : ∀ c, x ≤ c → c < y → s ∣ c → min (c + s) n ≤ p ∧ c ≤ p ∨ q ≤ c) : Runs_ lt s n x y u := fun c c0 c1 cd => by
  have h1 := h c c0 c1 cd
  have h2 := hc c c0 c1 cd
  exact ⟨h1.1.congr fun k k0 k1 => hp.out (by omega), h1.2.keep hp p0 q0 (by omega)⟩
theorem dvd_gap {s c a : Int} (hs : 0 < s) (h1 : s ∣ c) (h2 : s ∣ a) (h : c < a) : c + s ≤ a := by
  have := Int.le_of_dvd (show 0 < a - c by omega) (Int.dvd_sub h2 h1)
  omega
theorem PermOn.dom {lo hi n N : Int} {a b : Int → Int} (h : PermOn lo hi a b) (h0 : 0 ≤ lo) (h1 : hi ≤ n ∨ n ≤ lo) (hd : ∀ k, 0 ≤ k → k < n → 0 ≤ a k ∧ a k < N) : ∀ k, 0 ≤ k → k < n → 0 ≤ b k ∧ b k < N := fun k k0 k1 => by
  by_cases hk : lo ≤ k ∧ k < hi
  · obtain ⟨j, j0, j1, j2⟩ := h.fr hk.1 hk.2
    rw [j2]; exact hd j (by omega) (by omega)
  · rw [h.out hk]; exact hd k k0 k1
theorem ins_big {a b i : Int} {s t : Int → Int} (hp : PermOn a i s t) (hinc : Incr a b s) (hi : i < b) : ∀ p, a ≤ p → p < i → t p < t i := fun p p0 p1 => by
  obtain ⟨j, j0, j1, j2⟩ := hp.fr p0 p1
  rw [j2, hp.out (by omega)]; exact hinc j i j0 j1 hi
theorem rot_triv {a : Int → Int} {x m e : Int} (h0 : x ≤ m) (h1 : m ≤ e) (h : ¬ (x < m ∧ m < e)) : rot a x m e = a := by
  funext k; unfold rot
  by_cases g1 : x ≤ k ∧ k < x + (e - m)
  · rw [if_pos g1]; congr 1; omega
  · rw [if_neg g1]
    by_cases g2 : x + (e - m) ≤ k ∧ k < e
    · rw [if_pos g2]; congr 1; omega
    · rw [if_neg g2]
theorem runs_first {lt : Int → Int → Prop} {z n a b : Int} {s t u : Int → Int} (hz : 0 < z) (hinc : Incr 0 n s) (hr : Runs_ lt z n 0 a t) (a0 : 0 ≤ a) (hd : z ∣ a) (hp : PermOn 0 a s t) (hq : PermOn a b t u) (hs : Srt (Tie lt) a b u) (hb : b = a + z ∧ b ≤ n ∨ b = n ∧ n < a + z) (ab : a ≤ b) : Runs_ lt z n 0 b u := fun c c0 c1 cd => by
  by_cases hc : c < a
  · exact (hr.keep hq a0 (by omega) (fun c c0 c1 cd => .inl (by have := dvd_gap hz cd hd c1; omega))) c c0 hc cd
  · have hca : c = a := by
      by_cases h : a < c
      · have := dvd_gap hz hd cd h; omega
      · omega
    subst hca
    refine ⟨hs.mono (by omega) (by omega), fun i j i0 i1 j0 j1 => ?_⟩
    obtain ⟨i', g0, g1, g2⟩ := hp.fr i0 i1
    rw [hq.out (by omega), g2]
    by_cases hj : j < b
    · obtain ⟨j', f0, f1, f2⟩ := hq.fr j0 hj
      rw [f2, hp.out (by omega)]; exact hinc i' j' g0 (by omega) (by omega)
    · rw [hq.out (by omega), hp.out (by omega)]; exact hinc i' j g0 (by omega) j1
theorem runs_pre {lt : Int → Int → Prop} {z n a b : Int} {t : Int → Int} (hz : 0 < z) (a0 : 0 ≤ a) (hd : z ∣ a) (h : Runs_ lt z n a n t) (hm : a + z < b) (hb : b ≤ a + 2 * z) (hn : b ≤ n) : Srt (Tie lt) a (a + z) t ∧ Srt (Tie lt) (a + z) b t ∧ Parted a (a + z) b t := by
  have h1 := h a (Int.le_refl _) (by omega) hd
  have h2 := h (a + z) (by omega) (by omega) (Int.dvd_add hd (Int.dvd_refl z))
  exact ⟨h1.1.mono (by omega) (by omega), h2.1.mono (by omega) (by omega), fun i j i0 i1 j0 j1 => h2.2 i j (by omega) i1 j0 (by omega)⟩
theorem runs_merge {lt : Int → Int → Prop} {z n a b : Int} {t u : Int → Int} (hz : 0 < z) (a0 : 0 ≤ a) (hd : 2 * z ∣ a) (h2 : Runs_ lt (2 * z) n 0 a t) (h1 : Runs_ lt z n a n t) (hq : PermOn a b t u) (hs : Srt (Tie lt) a b u) (hb : b = a + 2 * z ∧ b ≤ n ∨ b = n ∧ n < a + 2 * z) (ab : a < b) : Runs_ lt (2 * z) n 0 b u ∧ Runs_ lt z n b n u := by
  refine ⟨fun c c0 c1 cd => ?_, fun c c0 c1 cd => ?_⟩
  · by_cases hc : c < a
    · exact (h2.keep hq a0 (by omega) (fun c c0 c1 cd => .inl (by have := dvd_gap (by omega) cd hd c1; omega))) c c0 hc cd
    · have hca : c = a := by
        by_cases h : a < c
        · have := dvd_gap (by omega) hd cd h; omega
        · omega
      subst hca
      exact ⟨hs.mono (by omega) (by omega), (h1 c (by omega) (by omega) (Int.dvd_trans (Int.dvd_mul_left 2 z) cd)).2.keep hq a0 (by omega) (.inr (Int.le_refl _))⟩
  · have h3 := h1 c (by omega) c1 cd
    exact ⟨h3.1.congr fun k k0 k1 => hq.out (by omega), h3.2.keep hq a0 (by omega) (.inl (by omega))⟩
theorem runs_all {lt : Int → Int → Prop} {z n : Int} {t : Int → Int} (h : Runs_ lt z n 0 n t) (hz : n ≤ z) : Srt (Tie lt) 0 n t := fun i j i0 ij j1 => by
  exact (h 0 (Int.le_refl _) (by omega) (Int.dvd_zero z)).1 i j i0 ij (by omega)
theorem Halves.after {lt : Int → Int → Prop} {a s mid e b : Int} {t u : Int → Int} (h : Halves lt a s mid e b t) (hp : PermOn a mid t u) (hs : Srt (Tie lt) a mid u) (e0 : mid ≤ e) (e1 : e ≤ b) : Halves lt a a mid e b u := by
  refine ⟨fun i j i0 ij j1 => by omega, hs, h.r1.congr fun k k0 k1 => hp.out (by omega), h.r2.congr fun k k0 k1 => hp.out (by omega), fun i j i0 i1 j0 j1 => by omega, fun i j i0 i1 j0 j1 => ?_, fun i j i0 i1 j0 j1 => ?_⟩
  · rw [hp.out (by omega), hp.out (by omega)]; exact h.pr i j i0 i1 j0 j1
  · obtain ⟨i', g0, g1, g2⟩ := hp.fr i0 i1
    rw [g2, hp.out (k := j) (by omega)]; exact h.cross i' j g0 g1 j0 j1
theorem incr_keep {a n lo hi : Int} {s t : Int → Int} (hp : PermOn 0 a s t) (h : Incr 0 n s) (a0 : 0 ≤ a) (h0 : a ≤ lo) (h1 : hi ≤ n) : Incr lo hi t := fun i j i0 ij j1 => by
  rw [hp.out (by omega), hp.out (by omega)]; exact h i j (by omega) ij (by omega)
theorem runs_end {lt : Int → Int → Prop} {z n a : Int} {t : Int → Int} (hz : 0 < z) (a0 : 0 ≤ a) (hd : 2 * z ∣ a) (h2 : Runs_ lt (2 * z) n 0 a t) (h1 : Runs_ lt z n a n t) (ha : a ≤ n) (hm : n ≤ a + z) : Runs_ lt (2 * z) n 0 n t := by
  by_cases h : a < n
  · exact (runs_merge hz a0 hd h2 h1 (.refl _ _ _) ((h1 a (Int.le_refl _) h (Int.dvd_trans (Int.dvd_mul_left 2 z) hd)).1.mono (Int.le_refl _) (by omega)) (.inr ⟨rfl, by omega⟩) h).1
  · obtain rfl : a = n := by omega
    exact h2
/-- What a stable sort leaves: the same names, in the order of the comparison, equals by their names. -/
def StabR (lt : Int → Int → Prop) (n : Int) (s t : Int → Int) : Prop := PermOn 0 n s t ∧ Srt (Tie lt) 0 n t
end Go.Proofs.Gw
