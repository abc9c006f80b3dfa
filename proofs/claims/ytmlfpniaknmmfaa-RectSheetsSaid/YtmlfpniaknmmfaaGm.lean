/- Plain laws on memory: what a slice that came in reads as, and the blocks that the call itself has made. No program in sight. -/
import Derived.Test.YtmlfpniaknmmfaaGw
namespace Go.Proofs.Gw
open Go Go.RowKit
set_option linter.unusedVariables false
set_option linter.unusedSimpArgs false

/-! ## Slices that are read -/
/-- A slice value of n elements. -/
def Slh (v : Value) (n : Int) : Prop := 0 ≤ n ∧ n ≤ 140737488355328 ∧ ∃ a cap, v = .slice a n.toNat cap ∧ (n = 0 ∨ ∃ b off, a = some ⟨b, off, none⟩)
/-- The address of cell k of a slice. -/
def cad (v : Value) (k : Int) : Addr := match v with
  | .slice (some a) _ _ => ⟨a.block, a.off + k.toNat, none⟩
  | _ => ⟨0, 0, none⟩
/-- In the world w the slice value v of n elements of s cells each holds the cells c 0, c 1, .. -/
def Row (w : World) (v : Value) (s : Nat) (n : Int) (c : Int → Value) : Prop :=
  Slh v n ∧ ∀ k : Nat, (k : Int) < n * s → w.cell? (cad v k) = some (c k)
theorem Row.slh {w : World} {v : Value} {s : Nat} {n : Int} {c : Int → Value} (h : Row w v s n c) : Slh v n := h.1
theorem Row.cell {w : World} {v : Value} {s : Nat} {n : Int} {c : Int → Value} (h : Row w v s n c) {k : Int} (h0 : 0 ≤ k) (h1 : k < n * s) : w.cell? (cad v k) = some (c k) := by
  obtain ⟨j, rfl⟩ := Int.eq_ofNat_of_zero_le h0
  exact h.2 j h1
theorem Row.below {w w' : World} {v : Value} {s : Nat} {n : Int} {c : Int → Value} (h : Row w v s n c) (hb : Below w.heap.size w w') : Row w' v s n c :=
  ⟨h.1, fun k hk => by
    have := h.2 k hk
    rw [hb.cell (World.block_lt_of_cell? w _ this)]; exact this⟩
theorem Row.congr {w : World} {v : Value} {s : Nat} {n : Int} {c d : Int → Value} (h : Row w v s n c) (e : ∀ k, 0 ≤ k → k < n * s → c k = d k) : Row w v s n d :=
  ⟨h.1, fun k hk => by rw [h.2 k hk, e k (by omega) hk]⟩
theorem Slh.n0 {v : Value} {n : Int} (h : Slh v n) : 0 ≤ n := h.1
theorem Slh.n1 {v : Value} {n : Int} (h : Slh v n) : n ≤ 140737488355328 := h.2.1

/-- The numbers f as cells. -/
def ints (f : Int → Int) : Int → Value := fun k => .int .i64 (f k)
def upd {α : Type} (f : Int → α) (k : Int) (x : α) : Int → α := fun j => if j = k then x else f j
def cat {α : Type} (n : Int) (f g : Int → α) : Int → α := fun j => if j < n then f j else g (j - n)
theorem upd_ints (f : Int → Int) (k x : Int) : upd (ints f) k (.int .i64 x) = ints (upd f k x) := by
  funext j; simp only [upd, ints]; split <;> rfl
theorem cat_ints (n : Int) (f g : Int → Int) : cat n (ints f) (ints g) = ints (cat n f g) := by
  funext j; simp only [cat, ints]; split <;> rfl

/-! ## The call's own blocks -/
/-- What holds in some blocks, and goes on holding while these do not turn. -/
structure Frame where
  holds : World → Prop
  has : Nat → Prop
  keep : ∀ {w w' : World}, holds w → (∀ g, has g → w'.heap[g]? = w.heap[g]?) → holds w'
  lt : ∀ {w : World} {g : Nat}, holds w → has g → g < w.heap.size
inductive Ent where
  /-- a variable: a whole block of these cells -/
  | blk (g : Nat) (cs : List Value)
  /-- a slice of the call's own, at the head of a block: n elements of s cells each, of type E -/
  | own (v : Value) (s : Nat) (E : TypeId) (n : Int) (c : Int → Value)
  /-- whatever else -/
  | sem (F : Frame)
def Ent.has : Ent → Nat → Prop
  | .blk g _, k => g = k
  | .own v _ _ _ _, k => v.ownBlock = some k
  | .sem F, k => F.has k
def Ent.holds (w : World) : Ent → Prop
  | .blk g cs => ∃ T, w.heap[g]? = some (.cells cs.toArray T (0, 0))
  | .own v s E n c => 0 ≤ n ∧ n ≤ 140737488355328 ∧ ((v = .slice none 0 0 ∧ n = 0) ∨ ∃ g cap cur, v = .slice (some ⟨g, 0, none⟩) n.toNat cap ∧ w.heap[g]? = some (.cells cur E (0, 0)) ∧
      n.toNat ≤ cap ∧ cap ≤ maxLen ∧ cur.size = cap * s ∧ ∀ k : Nat, (k : Int) < n * s → cur[k]? = some (c k))
  | .sem F => F.holds w
theorem Ent.holds.keep {e : Ent} {w w' : World} (h : e.holds w) (hk : ∀ g, e.has g → w'.heap[g]? = w.heap[g]?) : e.holds w' := by
  cases e with
  | blk g cs => obtain ⟨T, h⟩ := h; exact ⟨T, by rw [hk g rfl]; exact h⟩
  | own v s E n c =>
    obtain ⟨h0, h1, h | ⟨g, cap, cur, rfl, hg, h⟩⟩ := h
    · exact ⟨h0, h1, .inl h⟩
    · exact ⟨h0, h1, .inr ⟨g, cap, cur, rfl, by rw [hk g rfl]; exact hg, h⟩⟩
  | sem F => exact F.keep h hk
theorem Ent.holds.lt {e : Ent} {w : World} (h : e.holds w) {g : Nat} (hg : e.has g) : g < w.heap.size := by
  cases e with
  | blk g' cs => obtain ⟨T, h⟩ := h; cases hg; exact (Array.getElem?_eq_some_iff.1 h).1
  | own v s E n c =>
    obtain ⟨_, _, h | ⟨g', cap, cur, rfl, h, _⟩⟩ := h
    · obtain ⟨rfl, _⟩ := h; simp [Ent.has, Value.ownBlock] at hg
    · simp [Ent.has, Value.ownBlock] at hg; subst hg; exact (Array.getElem?_eq_some_iff.1 h).1
  | sem F => exact F.lt h hg

def Apart (d e : Ent) : Prop := ∀ g, d.has g → ¬ e.has g
/-- Since the world w0, in which the call began, nothing older has turned; the entries hold, in blocks of their own. -/
structure Sat (w0 w : World) (l : List Ent) : Prop where
  below : Below w0.heap.size w0 w
  holds : ∀ e ∈ l, e.holds w
  new : ∀ e ∈ l, ∀ g, e.has g → w0.heap.size ≤ g
  sep : l.Pairwise Apart
theorem Sat.start (w : World) : Sat w w [] := ⟨Below.refl _ _, by simp, by simp, .nil⟩
theorem Sat.sub {w0 w : World} {l m : List Ent} (h : Sat w0 w l) (hm : m.Sublist l) : Sat w0 w m :=
  ⟨h.below, fun e he => h.holds e (hm.subset he), fun e he => h.new e (hm.subset he), h.sep.sublist hm⟩
theorem Sat.draw {w0 w : World} {l : List Ent} (h : Sat w0 w l) : Sat w0 w.drew l :=
  ⟨h.below.drew, fun e he => (h.holds e he).keep fun _ _ => rfl, h.new, h.sep⟩
theorem Sat.size {w0 w : World} {l : List Ent} (h : Sat w0 w l) : w0.heap.size ≤ w.heap.size := h.below.size
/-- What another call leaves, behind what was there. -/
theorem Sat.comp {w0 w w' : World} {l m : List Ent} (h : Sat w0 w l) (k : Sat w w' m) : Sat w0 w' (l ++ m) := by
  refine ⟨h.below.trans (k.below.mono h.size), fun e he => ?_, fun e he g hg => ?_, ?_⟩
  · rcases List.mem_append.1 he with he | he
    · exact (h.holds e he).keep fun g hg => k.below.block g ((h.holds e he).lt hg)
    · exact k.holds e he
  · rcases List.mem_append.1 he with he | he
    · exact h.new e he g hg
    · exact Nat.le_trans h.size (k.new e he g hg)
  · refine List.pairwise_append.2 ⟨h.sep, k.sep, fun d hd e he g hg hg' => ?_⟩
    have h1 := (h.holds d hd).lt hg
    have h2 := k.new e he g hg'
    omega
theorem Sat.alloc {w0 w : World} {l : List Ent} (h : Sat w0 w l) (o : Obj) {e : Ent} (he : e.holds (w.alloc o)) (hat : ∀ g, e.has g → g = w.heap.size) : Sat w0 (w.alloc o) (l ++ [e]) :=
  h.comp (m := [e]) ⟨(Below.refl _ _).alloc (Nat.le_refl _) _, by simpa using he, fun d hd g hg => by rw [List.mem_singleton] at hd; subst hd; exact Nat.le_of_eq (hat g hg).symm, List.pairwise_singleton _ _⟩
theorem Sat.box {w0 w : World} {l : List Ent} (h : Sat w0 w l) (cs : List Value) (T : TypeId) : Sat w0 (w.alloc (.cells cs.toArray T)) (l ++ [.blk w.heap.size cs]) :=
  h.alloc _ ⟨T, heap_alloc_new w _⟩ (fun g hg => (hg : w.heap.size = g).symm)
/-- An entry is exchanged: its block alone has turned, or the new entry lies in a new block. -/
theorem Sat.turn {w0 w w' : World} {l1 l2 : List Ent} {d e : Ent} (h : Sat w0 w (l1 ++ d :: l2)) (hb : ∀ k, k < w.heap.size → ¬ d.has k → w'.heap[k]? = w.heap[k]?) (ht : w'.tape = w.tape) (ho : w'.os = w.os) (hp : w'.output = w.output) (hz : w.heap.size ≤ w'.heap.size)
    (he : e.holds w') (hat : ∀ g, e.has g → d.has g ∨ w.heap.size ≤ g) : Sat w0 w' (l1 ++ e :: l2) := by
  have hd : d ∈ l1 ++ d :: l2 := by simp
  have hsep := List.pairwise_append.1 h.sep
  have hsep2 := List.pairwise_cons.1 hsep.2.1
  refine ⟨h.below.trans ⟨ho, ht, hp, hz, fun k hk => hb k (Nat.lt_of_lt_of_le hk h.size) fun e' => ?_⟩, fun x hx => ?_, fun x hx g hg => ?_, ?_⟩
  · have := h.new d hd k e'; omega
  · rcases List.mem_append.1 hx with hx | hx
    · have hh := h.holds x (by simp [hx])
      exact hh.keep fun g hg => hb g (hh.lt hg) fun e' => hsep.2.2 x hx d (by simp) g hg e'
    · rcases List.mem_cons.1 hx with rfl | hx
      · exact he
      · have hh := h.holds x (by simp [hx])
        exact hh.keep fun g hg => hb g (hh.lt hg) fun e' => hsep2.1 x hx g e' hg
  · rcases List.mem_append.1 hx with hx | hx
    · exact h.new x (by simp [hx]) g hg
    · rcases List.mem_cons.1 hx with rfl | hx
      · rcases hat g hg with hg' | hg'
        · exact h.new d hd g hg'
        · exact Nat.le_trans h.size hg'
      · exact h.new x (by simp [hx]) g hg
  · refine List.pairwise_append.2 ⟨hsep.1, List.pairwise_cons.2 ⟨fun x hx g hg hg' => ?_, hsep2.2⟩, fun x hx y hy g hg hg' => ?_⟩
    · rcases hat g hg with h' | h'
      · exact hsep2.1 x hx g h' hg'
      · have := (h.holds x (by simp [hx])).lt hg'; omega
    · rcases List.mem_cons.1 hy with rfl | hy
      · rcases hat g hg' with h' | h'
        · exact hsep.2.2 x hx d (by simp) g hg h'
        · have := (h.holds x (by simp [hx])).lt hg; omega
      · exact hsep.2.2 x hx y (by simp [hy]) g hg hg'
theorem Sat.get {w0 w : World} {l1 l2 : List Ent} {d : Ent} (h : Sat w0 w (l1 ++ d :: l2)) : d.holds w := h.holds d (by simp)

/-! A variable's cell -/
theorem Ent.holds.cell {g : Nat} {cs : List Value} {w : World} (h : (Ent.blk g cs).holds w) {o : Nat} {v : Value} (hv : cs[o]? = some v) : w.cell? ⟨g, o, none⟩ = some v := by
  obtain ⟨T, h⟩ := h
  simp [World.cell?, h, hv]
theorem Ent.holds.free {g : Nat} {cs : List Value} {w : World} (h : (Ent.blk g cs).holds w) (o : Nat) : w.frozen? ⟨g, o, none⟩ = false := by
  obtain ⟨T, h⟩ := h
  simp [World.frozen?, h]
theorem Sat.setBlk {w0 w : World} {l1 l2 : List Ent} {g : Nat} {cs : List Value} (h : Sat w0 w (l1 ++ .blk g cs :: l2)) (o : Nat) (v : Value) :
    Sat w0 (w.setCell ⟨g, o, none⟩ v) (l1 ++ .blk g (cs.set o v) :: l2) := by
  refine h.turn (d := .blk g cs) (fun k _ hk => Below.heap_setCell _ _ _ _ fun e => hk (by rw [e]; rfl)) rfl rfl rfl (by simp [World.setCell]) ?_ (fun _ h => .inl h)
  obtain ⟨T, hg⟩ := h.get
  refine ⟨T, ?_⟩
  simp [World.setCell, Array.getElem?_modify, hg]
/-! A slice of the call's own -/
theorem Ent.holds.row {v : Value} {s : Nat} {E : TypeId} {n : Int} {c : Int → Value} {w : World} (h : (Ent.own v s E n c).holds w) : Row w v s n c := by
  obtain ⟨h0, h1, ⟨rfl, rfl⟩ | ⟨g, cap, cur, rfl, hg, h2, h3, h4, h5⟩⟩ := h
  · exact ⟨⟨h0, h1, _, _, rfl, .inl rfl⟩, fun k hk => by rw [Int.zero_mul] at hk; omega⟩
  · refine ⟨⟨h0, h1, _, _, rfl, .inr ⟨_, _, rfl⟩⟩, fun k hk => ?_⟩
    simp [cad, World.cell?, hg, h5 k hk]
theorem Ent.holds.freeRow {v : Value} {s : Nat} {E : TypeId} {n : Int} {c : Int → Value} {w : World} (h : (Ent.own v s E n c).holds w) (k : Int) : v = .slice none 0 0 ∨ w.frozen? (cad v k) = false := by
  obtain ⟨h0, h1, ⟨rfl, rfl⟩ | ⟨g, cap, cur, rfl, hg, h2, h3, h4, h5⟩⟩ := h
  · exact .inl rfl
  · right; simp [cad, World.frozen?, hg]
theorem Ent.holds.congr {v : Value} {s : Nat} {E : TypeId} {n : Int} {c d : Int → Value} {w : World} (h : (Ent.own v s E n c).holds w) (e : ∀ k, 0 ≤ k → k < n * s → c k = d k) : (Ent.own v s E n d).holds w := by
  obtain ⟨h0, h1, h | ⟨g, cap, cur, rfl, hg, h2, h3, h4, h5⟩⟩ := h
  · exact ⟨h0, h1, .inl h⟩
  · exact ⟨h0, h1, .inr ⟨g, cap, cur, rfl, hg, h2, h3, h4, fun k hk => by rw [h5 k hk, e k (by omega) hk]⟩⟩
theorem Sat.setOwn {w0 w : World} {l1 l2 : List Ent} {v : Value} {s : Nat} {E : TypeId} {n : Int} {c : Int → Value} (h : Sat w0 w (l1 ++ .own v s E n c :: l2)) (k : Int) (h0 : 0 ≤ k) (h1 : k < n * s) (x : Value) :
    Sat w0 (w.setCell (cad v k) x) (l1 ++ .own v s E n (upd c k x) :: l2) := by
  obtain ⟨j, rfl⟩ := Int.eq_ofNat_of_zero_le h0
  obtain ⟨hn0, hn1, ⟨rfl, rfl⟩ | ⟨g, cap, cur, rfl, hg, h2, h3, h4, h5⟩⟩ := h.get
  · rw [Int.zero_mul] at h1; omega
  · refine h.turn (fun k _ hk => Below.heap_setCell _ _ _ _ fun e => hk (by rw [e]; simp [Ent.has, Value.ownBlock, cad])) rfl rfl rfl (by simp [World.setCell]) ?_ (fun _ h => .inl h)
    refine ⟨hn0, hn1, .inr ⟨g, cap, cur.setIfInBounds j x, rfl, ?_, h2, h3, by simp [h4], fun i hi => ?_⟩⟩
    · simp [World.setCell, Array.getElem?_modify, hg, cad]
    · have hj := h5 j h1
      have hjl := (Array.getElem?_eq_some_iff.1 hj).1
      rw [Array.getElem?_setIfInBounds]
      by_cases e : j = i
      · subst e; simp [upd, hjl]
      · rw [if_neg e, h5 i hi]
        simp only [upd]
        rw [if_neg (by omega)]

/-- The owned slice in the make of the library's laws. -/
def cellsOf (c : Int → Value) (m : Nat) : List Value := (List.range m).map fun (k : Nat) => c (k : Int)
theorem cellsOf_get (c : Int → Value) (m k : Nat) : (cellsOf c m)[k]? = if k < m then some (c k) else none := by
  unfold cellsOf
  by_cases h : k < m
  · simp [h]
  · simp [h]
theorem cellsOf_length (c : Int → Value) (m : Nat) : (cellsOf c m).length = m := by simp [cellsOf]
theorem Ent.holds.owns {v : Value} {s : Nat} {E : TypeId} {n : Int} {c : Int → Value} {w : World} (h : (Ent.own v s E n c).holds w) (base : Nat) (hb : ∀ g, v.ownBlock = some g → base ≤ g) :
    w.ownsRow base E s v n.toNat (cellsOf c (n.toNat * s)) := by
  obtain ⟨h0, h1, ⟨rfl, rfl⟩ | ⟨g, cap, cur, rfl, hg, h2, h3, h4, h5⟩⟩ := h
  · exact ⟨by simp [cellsOf], .inl ⟨rfl, rfl⟩⟩
  · refine ⟨by simp [cellsOf], .inr ⟨g, cap, cur, rfl, hb g rfl, hg, h2, h3, h4, ?_⟩⟩
    have hle : n.toNat * s ≤ cur.size := by rw [h4]; exact Nat.mul_le_mul_right _ h2
    apply List.ext_getElem?
    intro k
    rw [cellsOf_get, List.getElem?_take]
    by_cases hk : k < n.toNat * s
    · have e : ((n.toNat * s : Nat) : Int) = n * s := by rw [Int.natCast_mul, Int.toNat_of_nonneg h0]
      rw [if_pos hk, if_pos hk, Array.getElem?_toList, h5 k (by omega)]
    · rw [if_neg hk, if_neg hk]
theorem Ent.holds.of_owns {v : Value} {s : Nat} {E : TypeId} {n : Int} {c : Int → Value} {w : World} {base : Nat} (h0 : 0 ≤ n) (h1 : n ≤ 140737488355328) (h : w.ownsRow base E s v n.toNat (cellsOf c (n.toNat * s))) : (Ent.own v s E n c).holds w := by
  obtain ⟨_, ⟨rfl, h⟩ | ⟨g, cap, cur, rfl, hb, hg, h2, h3, h4, h5⟩⟩ := h
  · exact ⟨h0, h1, .inl ⟨rfl, by omega⟩⟩
  · refine ⟨h0, h1, .inr ⟨g, cap, cur, rfl, hg, h2, h3, h4, fun k hk => ?_⟩⟩
    have hk' : k < n.toNat * s := by
      have : ((n.toNat * s : Nat) : Int) = n * s := by rw [Int.natCast_mul, Int.toNat_of_nonneg h0]
      omega
    have := congrArg (fun l => l[k]?) h5
    simp only [List.getElem?_take, cellsOf_get, hk', if_true, Array.getElem?_toList] at this
    exact this
end Go.Proofs.Gw
