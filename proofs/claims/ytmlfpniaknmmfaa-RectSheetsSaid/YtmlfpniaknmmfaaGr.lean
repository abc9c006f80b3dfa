/- Slices of slices: the inner slices of the call's own as one entry; parts of a slice; copy. Over any program. -/
import Derived.Test.YtmlfpniaknmmfaaGj
import Derived.Laws.CopyRow
import Derived.Laws.IdiomCopy
namespace Go.Proofs.Gw
open Go Go.RowKit
set_option linter.unusedVariables false
set_option linter.unusedSimpArgs false

theorem gu_self {α : Type} (f : Int → α) (k : Int) (x : α) : upd f k x k = x := if_pos rfl
theorem gu_ne {α : Type} {f : Int → α} {k j : Int} {x : α} (h : j ≠ k) : upd f k x j = f j := if_neg h
/-- One more at place n. -/
def gsn {α : Type} (f : Int → α) (n : Int) (x : α) : Int → α := fun k => if k < n then f k else x
theorem gsn_lt {α : Type} {f : Int → α} {n k : Int} {x : α} (h : k < n) : gsn f n x k = f k := if_pos h
theorem gsn_at {α : Type} {f : Int → α} {n k : Int} {x : α} (h : ¬ k < n) : gsn f n x k = x := if_neg h
theorem gsn_self {α : Type} (f : Int → α) (n : Int) (x : α) : gsn f n x n = x := if_neg (by omega)
theorem gsn_all {α : Type} {f g : Int → α} {i : Int} (h : ∀ k, 0 ≤ k → k < i → f k = g k) {x : α} (hx : x = g i) : ∀ k, 0 ≤ k → k < i + 1 → gsn f i x k = g k := fun k k0 k1 => by
  by_cases e : k < i
  · rw [gsn_lt e]; exact h k k0 e
  · rw [gsn_at e, hx]; congr 1; omega
theorem cat_gsn (f : Int → Value) (n : Int) (x : Value) : cat (n * 1) f (fun _ => x) = gsn f n x := by
  funext j; simp only [cat, gsn, Int.mul_one]
/-- The inner slices. -/
def Frame.rows (E : TypeId) (n : Int) (vv : Int → Value) (ln : Int → Int) (f : Int → Int → Int) : Frame where
  holds w := (∀ i, 0 ≤ i → i < n → (Ent.own (vv i) 1 E (ln i) (ints (f i))).holds w) ∧ ∀ i j, 0 ≤ i → i < n → 0 ≤ j → j < n → i ≠ j → ∀ g, (vv i).ownBlock = some g → (vv j).ownBlock ≠ some g
  has g := ∃ i, 0 ≤ i ∧ i < n ∧ (vv i).ownBlock = some g
  keep h hk := ⟨fun i i0 i1 => (h.1 i i0 i1).keep fun g hg => hk g ⟨i, i0, i1, hg⟩, h.2⟩
  lt h hg := by obtain ⟨i, i0, i1, hg⟩ := hg; exact (h.1 i i0 i1).lt hg
section
variable {P : Program} {L : List (Nat × Value)} {w w0 : World} {o : Oper} {x y z : Operand} {T T' : TypeId} {l l1 l2 l3 : List Ent} {E : TypeId} {n : Int} {vv : Int → Value} {ln : Int → Int} {f : Int → Int → Int}
theorem Sat.addrows (h : Sat w0 w l) (E : TypeId) (vv : Int → Value) (ln : Int → Int) (f : Int → Int → Int) : Sat w0 w (l ++ [.sem (Frame.rows E 0 vv ln f)]) := by
  refine h.comp (m := [.sem (Frame.rows E 0 vv ln f)]) ⟨Below.refl _ _, ?_, ?_, List.pairwise_singleton _ _⟩
  · intro e he
    obtain rfl := List.mem_singleton.1 he
    exact ⟨fun i _ _ => by omega, fun i _ _ _ => by omega⟩
  · intro e he g hg
    obtain rfl := List.mem_singleton.1 he
    obtain ⟨i, i0, i1, _⟩ := hg
    omega
theorem Sat.rowIn (h : Sat w0 w l) (i : Nat) (hi : l[i]? = some (.sem (Frame.rows E n vv ln f))) {k : Int} (k0 : 0 ≤ k) (k1 : k < n) : Row w (vv k) 1 (ln k) (ints (f k)) :=
  ((h.holds _ (List.mem_of_getElem? hi)).1 k k0 k1).row
theorem Sat.slhIn (h : Sat w0 w l) (i : Nat) (hi : l[i]? = some (.sem (Frame.rows E n vv ln f))) {k : Int} (k0 : 0 ≤ k) (k1 : k < n) : Slh (vv k) (ln k) := (h.rowIn i hi k0 k1).slh
/-- An own slice joins the inner ones. -/
theorem Sat.merge {v : Value} {m : Int} {g : Int → Int} (h : Sat w0 w (l1 ++ .sem (Frame.rows E n vv ln f) :: (l2 ++ .own v 1 E m (ints g) :: l3))) (hn : 0 ≤ n) : Sat w0 w (l1 ++ .sem (Frame.rows E (n + 1) (gsn vv n v) (gsn ln n m) (gsn f n g)) :: (l2 ++ l3)) := by
  have hp : (l1 ++ .sem (Frame.rows E n vv ln f) :: (l2 ++ .own v 1 E m (ints g) :: l3)).Perm (.sem (Frame.rows E n vv ln f) :: .own v 1 E m (ints g) :: (l1 ++ (l2 ++ l3))) := by
    refine List.perm_middle.trans (.cons _ ?_)
    rw [← List.append_assoc]
    refine List.perm_middle.trans (.cons _ ?_)
    rw [List.append_assoc]
  have hq : (l1 ++ .sem (Frame.rows E (n + 1) (gsn vv n v) (gsn ln n m) (gsn f n g)) :: (l2 ++ l3)).Perm (.sem (Frame.rows E (n + 1) (gsn vv n v) (gsn ln n m) (gsn f n g)) :: (l1 ++ (l2 ++ l3))) := List.perm_middle
  have h' := h.perm hp
  refine Sat.perm ?_ hq.symm
  have hr := h'.holds (.sem (Frame.rows E n vv ln f)) (by simp)
  have ho := h'.holds (.own v 1 E m (ints g)) (by simp)
  have s1 := List.pairwise_cons.1 h'.sep
  have s2 := List.pairwise_cons.1 s1.2
  have hap : ∀ i, 0 ≤ i → i < n → ∀ b, (vv i).ownBlock = some b → v.ownBlock ≠ some b := fun i i0 i1 b hb hb' => s1.1 (.own v 1 E m (ints g)) (by simp) b ⟨i, i0, i1, hb⟩ hb'
  have hcase : ∀ b, (Ent.sem (Frame.rows E (n + 1) (gsn vv n v) (gsn ln n m) (gsn f n g))).has b → (Ent.sem (Frame.rows E n vv ln f)).has b ∨ (Ent.own v 1 E m (ints g)).has b := fun b ⟨i, i0, i1, hb⟩ => by
    by_cases e : i < n
    · rw [gsn_lt e] at hb; exact .inl ⟨i, i0, e, hb⟩
    · rw [gsn_at e] at hb; exact .inr hb
  refine ⟨h'.below, fun e he => ?_, fun e he b hb => ?_, List.pairwise_cons.2 ⟨fun e he b hb hb' => ?_, s2.2⟩⟩
  · rcases List.mem_cons.1 he with rfl | he
    · refine ⟨fun i i0 i1 => ?_, fun i j i0 i1 j0 j1 hij b hb hb' => ?_⟩
      · by_cases e : i < n
        · rw [gsn_lt e, gsn_lt e, gsn_lt e]; exact hr.1 i i0 e
        · rw [gsn_at e, gsn_at e, gsn_at e]; exact ho
      · by_cases ei : i < n <;> by_cases ej : j < n
        · rw [gsn_lt ei] at hb; rw [gsn_lt ej] at hb'; exact hr.2 i j i0 ei j0 ej hij b hb hb'
        · rw [gsn_lt ei] at hb; rw [gsn_at ej] at hb'; exact hap i i0 ei b hb hb'
        · rw [gsn_at ei] at hb; rw [gsn_lt ej] at hb'; exact hap j j0 ej b hb' hb
        · omega
    · exact h'.holds e (by simp [he])
  · rcases List.mem_cons.1 he with rfl | he
    · rcases hcase b hb with hb | hb
      · exact h'.new _ (by simp) b hb
      · exact h'.new (.own v 1 E m (ints g)) (by simp) b hb
    · exact h'.new e (by simp [he]) b hb
  · rcases hcase b hb with hb | hb
    · exact s1.1 e (by simp [he]) b hb hb'
    · exact s2.1 e he b hb hb'
theorem Sat.merge2 {v : Value} {m : Int} {g : Int → Int} (h : Sat w0 w (l1 ++ .own v 1 E m (ints g) :: (l2 ++ .sem (Frame.rows E n vv ln f) :: l3))) (hn : 0 ≤ n) : Sat w0 w (l1 ++ (l2 ++ .sem (Frame.rows E (n + 1) (gsn vv n v) (gsn ln n m) (gsn f n g)) :: l3)) := by
  have hp : (l1 ++ .own v 1 E m (ints g) :: (l2 ++ .sem (Frame.rows E n vv ln f) :: l3)).Perm ([] ++ .sem (Frame.rows E n vv ln f) :: ([] ++ .own v 1 E m (ints g) :: (l1 ++ (l2 ++ l3)))) := by
    refine List.perm_middle.trans ((List.Perm.cons _ ?_).trans (List.Perm.swap _ _ _))
    rw [← List.append_assoc]
    refine List.perm_middle.trans (.cons _ ?_)
    rw [List.append_assoc]
  have h2 := (h.perm hp).merge hn
  refine h2.perm ?_
  have : (l1 ++ (l2 ++ .sem (Frame.rows E (n + 1) (gsn vv n v) (gsn ln n m) (gsn f n g)) :: l3)).Perm (.sem (Frame.rows E (n + 1) (gsn vv n v) (gsn ln n m) (gsn f n g)) :: (l1 ++ (l2 ++ l3))) := by
    rw [← List.append_assoc, ← List.append_assoc]; exact List.perm_middle
  simpa using this.symm
/-- A cell of an own slice is set. -/
theorem own_set {v : Value} {s : Nat} {c : Int → Value} {w : World} (h : (Ent.own v s E n c).holds w) {k : Int} (h0 : 0 ≤ k) (h1 : k < n * s) (x : Value) :
    (Ent.own v s E n (upd c k x)).holds (w.setCell (cad v k) x) ∧ (∀ b, v.ownBlock ≠ some b → (w.setCell (cad v k) x).heap[b]? = w.heap[b]?) ∧ w.frozen? (cad v k) = false := by
  obtain ⟨j, rfl⟩ := Int.eq_ofNat_of_zero_le h0
  obtain ⟨hn0, hn1, ⟨rfl, rfl⟩ | ⟨g, cap, cur, rfl, hg, h2, h3, h4, h5⟩⟩ := h
  · rw [Int.zero_mul] at h1; omega
  · refine ⟨⟨hn0, hn1, .inr ⟨g, cap, cur.setIfInBounds j x, rfl, ?_, h2, h3, by simp [h4], fun i hi => ?_⟩⟩, fun b hb => Below.heap_setCell _ _ _ _ fun e => hb (by rw [e]; simp [Value.ownBlock, cad]), by simp [cad, World.frozen?, hg]⟩
    · simp [World.setCell, Array.getElem?_modify, hg, cad]
    · have hj := h5 j h1
      have hjl := (Array.getElem?_eq_some_iff.1 hj).1
      rw [Array.getElem?_setIfInBounds]
      by_cases e : j = i
      · subst e; simp [upd, hjl]
      · rw [if_neg e, h5 i hi]
        simp only [upd]
        rw [if_neg (by omega)]
/-- A number is stored into an inner slice. -/
theorem st_rows (i : Nat) {k j a : Int} {f' : Int → Int → Int} (ho : o.op = .store T x y) (ht : plainT P T = true) (hS : Sat w0 w l) (hi : l[i]? = some (.sem (Frame.rows E n vv ln f))) (hx : evL L x = some (.pointer (some (cad (vv k) j)))) (hy : evL L y = some (.int .i64 a))
    (k0 : 0 ≤ k) (k1 : k < n) (j0 : 0 ≤ j) (j1 : j < ln k) (e : upd f k (upd (f k) j a) = f') : ∃ w', Runs P L w o .skip w' ∧ Sat w0 w' (l.set i (.sem (Frame.rows E n vv ln f'))) := by
  subst e
  have hS' := hS
  rw [split_at hi] at hS'
  have hr := hS'.get
  have hk := hr.1 k k0 k1
  have j1' : j < ln k * (1 : Nat) := by omega
  obtain ⟨s1, s2, s3⟩ := own_set hk j0 j1' (.int .i64 a)
  refine ⟨_, ex_store ho ht hx hy rfl (hk.row.cell j0 j1') s3, ?_⟩
  rw [set_at hi]
  refine hS'.turn (fun b _ hb => s2 b (fun hh => hb ⟨k, k0, k1, hh⟩)) rfl rfl rfl (by simp [World.setCell]) ⟨fun q q0 q1 => ?_, hr.2⟩ (fun _ h => .inl h)
  by_cases e : q = k
  · subst e; rw [gu_self, ← upd_ints]; exact s1
  · rw [gu_ne e]; exact (hr.1 q q0 q1).keep fun b hb => s2 b (hr.2 q k q0 q1 k0 k1 e b hb)
/-- The entries are put into one, and taken out again. -/
def Frame.bun (l : List Ent) : Frame where
  holds w := (∀ e ∈ l, e.holds w) ∧ l.Pairwise Apart
  has k := ∃ e ∈ l, e.has k
  keep h hk := ⟨fun e he => (h.1 e he).keep fun g hg => hk g ⟨e, he, hg⟩, h.2⟩
  lt h hg := by obtain ⟨e, he, hg⟩ := hg; exact (h.1 e he).lt hg
theorem Sat.bundle (h : Sat w0 w (l1 ++ l2)) : Sat w0 w (l1 ++ [.sem (Frame.bun l2)]) := by
  have hs := List.pairwise_append.1 h.sep
  refine ⟨h.below, fun e he => ?_, fun e he g hg => ?_, List.pairwise_append.2 ⟨hs.1, List.pairwise_singleton _ _, fun d hd e he g hg hg' => ?_⟩⟩
  · rcases List.mem_append.1 he with he | he
    · exact h.holds e (by simp [he])
    · obtain rfl := List.mem_singleton.1 he
      exact ⟨fun d hd => h.holds d (by simp [hd]), hs.2.1⟩
  · rcases List.mem_append.1 he with he | he
    · exact h.new e (by simp [he]) g hg
    · obtain rfl := List.mem_singleton.1 he
      obtain ⟨d, hd, hg⟩ := hg
      exact h.new d (by simp [hd]) g hg
  · obtain rfl := List.mem_singleton.1 he
    obtain ⟨x, hx, hg'⟩ := hg'
    exact hs.2.2 d hd x hx g hg hg'
theorem Sat.unbundle (h : Sat w0 w (l1 ++ .sem (Frame.bun l2) :: l3)) : Sat w0 w (l1 ++ (l2 ++ l3)) := by
  have hs := List.pairwise_append.1 h.sep
  have hs2 := List.pairwise_cons.1 hs.2.1
  have hb := h.holds (.sem (Frame.bun l2)) (by simp)
  have hsub : ∀ x ∈ l2, ∀ g, x.has g → (Ent.sem (Frame.bun l2)).has g := fun x hx g hg => ⟨x, hx, hg⟩
  refine ⟨h.below, fun e he => ?_, fun e he g hg => ?_, List.pairwise_append.2 ⟨hs.1, List.pairwise_append.2 ⟨hb.2, hs2.2, fun x hx y hy g hg hg' => hs2.1 y hy g (hsub x hx g hg) hg'⟩, fun d hd e he g hg hg' => ?_⟩⟩
  · rcases List.mem_append.1 he with he | he
    · exact h.holds e (by simp [he])
    · rcases List.mem_append.1 he with he | he
      · exact hb.1 e he
      · exact h.holds e (by simp [he])
  · rcases List.mem_append.1 he with he | he
    · exact h.new e (by simp [he]) g hg
    · rcases List.mem_append.1 he with he | he
      · exact h.new (.sem (Frame.bun l2)) (by simp) g (hsub e he g hg)
      · exact h.new e (by simp [he]) g hg
  · rcases List.mem_append.1 he with he | he
    · exact hs.2.2 d hd (.sem (Frame.bun l2)) (by simp) g hg (hsub e he g hg')
    · exact hs.2.2 d hd e (by simp [he]) g hg hg'
/-- Either p, or these entries. -/
def Frame.alt (p : Prop) (F : Frame) : Frame where
  holds w := p ∨ F.holds w
  has k := ¬ p ∧ F.has k
  keep := fun {w w'} h hk => by
    by_cases hp : p
    · exact .inl hp
    · rcases h with h | h
      · exact .inl h
      · exact .inr (F.keep h fun g hg => hk g ⟨hp, hg⟩)
  lt := fun {w g} h hg => by
    rcases h with h | h
    · exact absurd h hg.1
    · exact F.lt h hg.2
theorem Sat.altL {p : Prop} (F : Frame) (hp : p) (h : Sat w0 w l) : Sat w0 w (l ++ [.sem (Frame.alt p F)]) := by
  refine h.comp (m := [.sem (Frame.alt p F)]) ⟨Below.refl _ _, ?_, ?_, List.pairwise_singleton _ _⟩
  · intro e he
    obtain rfl := List.mem_singleton.1 he
    exact .inl hp
  · intro e he g hg
    obtain rfl := List.mem_singleton.1 he
    exact absurd hp hg.1
theorem Sat.altR (p : Prop) {F : Frame} (h : Sat w0 w (l1 ++ .sem F :: l2)) : Sat w0 w (l1 ++ .sem (Frame.alt p F) :: l2) := by
  have hs := List.pairwise_append.1 h.sep
  have hs2 := List.pairwise_cons.1 hs.2.1
  refine ⟨h.below, fun e he => ?_, fun e he g hg => ?_, List.pairwise_append.2 ⟨hs.1, List.pairwise_cons.2 ⟨fun e he g hg hg' => hs2.1 e he g hg.2 hg', hs2.2⟩, fun d hd e he g hg hg' => ?_⟩⟩
  · rcases List.mem_append.1 he with he | he
    · exact h.holds e (by simp [he])
    · rcases List.mem_cons.1 he with rfl | he
      · exact .inr (h.holds (.sem F) (by simp))
      · exact h.holds e (by simp [he])
  · rcases List.mem_append.1 he with he | he
    · exact h.new e (by simp [he]) g hg
    · rcases List.mem_cons.1 he with rfl | he
      · exact h.new (.sem F) (by simp) g hg.2
      · exact h.new e (by simp [he]) g hg
  · rcases List.mem_cons.1 he with rfl | he
    · exact hs.2.2 d hd (.sem F) (by simp) g hg hg'.2
    · exact hs.2.2 d hd e (by simp [he]) g hg hg'
theorem Sat.altE {p : Prop} {F : Frame} (h : Sat w0 w (l1 ++ .sem (Frame.alt p F) :: l2)) : (p ∧ Sat w0 w (l1 ++ l2)) ∨ (¬ p ∧ Sat w0 w (l1 ++ .sem F :: l2)) := by
  by_cases hp : p
  · exact .inl ⟨hp, h.sub (List.Sublist.append_left (List.sublist_cons_self _ _) _)⟩
  · right
    refine ⟨hp, ?_⟩
    have hs := List.pairwise_append.1 h.sep
    have hs2 := List.pairwise_cons.1 hs.2.1
    refine ⟨h.below, fun e he => ?_, fun e he g hg => ?_, List.pairwise_append.2 ⟨hs.1, List.pairwise_cons.2 ⟨fun e he g hg hg' => hs2.1 e he g ⟨hp, hg⟩ hg', hs2.2⟩, fun d hd e he g hg hg' => ?_⟩⟩
    · rcases List.mem_append.1 he with he | he
      · exact h.holds e (by simp [he])
      · rcases List.mem_cons.1 he with rfl | he
        · exact (h.holds (.sem (Frame.alt p F)) (by simp)).resolve_left hp
        · exact h.holds e (by simp [he])
    · rcases List.mem_append.1 he with he | he
      · exact h.new e (by simp [he]) g hg
      · rcases List.mem_cons.1 he with rfl | he
        · exact h.new (.sem (Frame.alt p F)) (by simp) g ⟨hp, hg⟩
        · exact h.new e (by simp [he]) g hg
    · rcases List.mem_cons.1 he with rfl | he
      · exact hs.2.2 d hd (.sem (Frame.alt p F)) (by simp) g hg ⟨hp, hg'⟩
      · exact hs.2.2 d hd e (by simp [he]) g hg hg'
/-- u is the slice v from its place 1 on. -/
def Suf (u v : Value) (q n : Int) : Prop := Slh u (n - q) ∧ ∀ k, 0 ≤ k → k < n - q → cad u k = cad v (k + q)
theorem Suf.row {u v : Value} {q : Int} {c : Int → Value} {n : Int} (h : Suf u v q n) (hq : 0 ≤ q) (hR : Row w v 1 n c) : Row w u 1 (n - q) (fun k => c (k + q)) :=
  ⟨h.1, fun k hk => by
    have := h.1.n0
    rw [h.2 k (by omega) (by simpa using hk)]
    exact hR.cell (by omega) (by simp at hk ⊢; omega)⟩
theorem Suf.slh {u v : Value} {q n : Int} (h : Suf u v q n) : Slh u (n - q) := h.1
end
end Go.Proofs.Gw
