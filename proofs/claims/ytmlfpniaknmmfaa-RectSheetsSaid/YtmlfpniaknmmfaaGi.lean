/- More operations: calls through an interface, structs in rows and in parts of a variable; the library's Sort and Compact on a slice of the call's own. Over any program. -/
import Derived.Test.YtmlfpniaknmmfaaGn
import Derived.Sort.OwnSortedInts
import Derived.Shelf.Slices.CompactI
namespace Go.Proofs.Gw
open Go Go.RowKit
set_option linter.unusedVariables false
set_option linter.unusedSimpArgs false

section
variable {P : Program} {L : List (Nat × Value)} {w w0 : World} {o : Oper} {x y z : Operand} {T T' : TypeId} {l : List Ent}
/-- The method of that name of what lies in an interface, of this type, is this function. -/
def methodT (P : Program) (t : TypeId) (name : String) (f : FuncId) : Prop := ∀ (v : Value) (args : Array Value) (w : World), (callMethod (.iface t v) name args).run P w = .ok (.enter f (#[v] ++ args)) w
theorem ex_invoke {g : FuncId} {t : TypeId} {name : String} {xs : Array Operand} {ts : Array TypeId} {v : Value} {vs : List Value} (ho : o.op = .call { callee := .invoke x name, args := xs, argTypes := ts }) (hx : evL L x = some (.iface t v)) (ht : methodT P t name g) (ha : Args L xs vs) : Runs P L w o (.enter g (v :: vs).toArray) w := fun ρ h => by
  have h1 := ha ρ h
  have h2 := ht v vs.toArray w
  have e : (#[Value.iface t v] ++ vs.toArray).extract 1 (#[Value.iface t v] ++ vs.toArray).size = vs.toArray := by simp
  have e2 : (#[Value.iface t v] ++ vs.toArray)[0]? = some (.iface t v) := by simp
  have e3 : #[v] ++ vs.toArray = (v :: vs).toArray := by simp
  rw [e3] at h2
  simp only [execOp, ho, resolve, h _ _ hx, h1, invoke, Sem.run_bind, pure_bind, e, e2]
  exact h2
theorem ex_mkiface {v : Value} {d : TypeDesc} (ho : o.op = .makeInterface T x) (ht : P.underlying T = some d) (hd : (match d with | .interface _ => false | _ => true) = true) (hx : evL L x = some v) : Runs P L w o (.value (.iface T v)) w := fun ρ h => by
  simp only [execOp, ho, h _ _ hx, Instr.makeInterface]
  rw [Sem.run_bind, Sem.run_bind, run_underlying ht]
  cases d <;> first | rfl | cases hd
theorem ex_loads_part (i : Nat) {g k m : Nat} {cs ds : List Value} (ho : o.op = .load T x) (ht : structT P T = some m) (hx : evL L x = some (.pointer (some ⟨g, k, none⟩))) (hS : Sat w0 w l) (hi : l[i]? = some (.blk g cs)) (hm : ds.length = m) (hd : (cs.drop k).take m = ds) :
    Runs P L w o (.value (.agg ds.toArray)) w := by
  subst hm
  refine ex_loads ho ht hx fun j v hv => ?_
  rw [Addr.add_eq _ rfl]
  have hj : j < ds.length := (List.getElem?_eq_some_iff.1 hv).1
  rw [← hd, List.getElem?_take_of_lt hj, List.getElem?_drop] at hv
  exact hS.cellN i hi hv
theorem ex_loads_row {s : Nat} {n k : Int} {c : Int → Value} {v : Value} {cs : List Value} {m : Nat} (ho : o.op = .load T x) (ht : structT P T = some m) (hx : evL L x = some (.pointer (some (cad v k)))) (hR : Row w v s n c) (h0 : 0 ≤ k) (h1 : k + m ≤ n * s) (hm : cs.length = m) (hm0 : 0 < m)
    (e : ∀ (j : Nat) u, cs[j]? = some u → c (k + j) = u) : Runs P L w o (.value (.agg cs.toArray)) w := by
  subst hm
  refine ex_loads ho ht hx fun j u hu => ?_
  have hj : j < cs.length := (List.getElem?_eq_some_iff.1 hu).1
  have hn : 0 < n := by
    rcases Int.lt_or_le 0 n with h | h
    · exact h
    · have : n * s ≤ 0 := Int.mul_nonpos_of_nonpos_of_nonneg h (by omega)
      omega
  rw [cad_add hR.slh h0 hn, ← e j u hu]
  exact hR.cell (by omega) (by omega)

/-- What an interface holds is compared with nil. -/
theorem equal_nil_t {m} {t : TypeId} {v : Value} (ht : P.underlying T = some (.interface m)) : (Op.equal T (.iface t v) .nilIface).run P w = .ok false w := by
  unfold Op.equal
  rw [show Op.maxDepth = 9999 + 1 from rfl, Op.equalIn, Sem.run_bind, run_underlying ht]
  rfl
theorem equal_nil_f {m} (ht : P.underlying T = some (.interface m)) : (Op.equal T .nilIface .nilIface).run P w = .ok true w := by
  unfold Op.equal
  rw [show Op.maxDepth = 9999 + 1 from rfl, Op.equalIn, Sem.run_bind, run_underlying ht]
  rfl
theorem ex_neq_nil_t {m} {t : TypeId} {v : Value} (ho : o.op = .binOp .neq T x y T') (ht : P.underlying T = some (.interface m)) (hx : evL L x = some (.iface t v)) (hy : evL L y = some .nilIface) : Runs P L w o (.value (.bool true)) w := fun ρ h => by
  simp [execOp, ho, h _ _ hx, h _ _ hy, go_sem, binOp, eqGuard, equal_nil_t ht]
theorem ex_neq_nil_f {m} (ho : o.op = .binOp .neq T x (.const .nilIface) T') (ht : P.underlying T = some (.interface m)) (hx : evL L x = some .nilIface) : Runs P L w o (.value (.bool false)) w := fun ρ h => by
  have hy := h (.const .nilIface) .nilIface rfl
  simp [execOp, ho, h _ _ hx, hy, go_sem, eqGuard, binOp, equal_nil_f ht]
/-- A cell of another's, known since the call began. -/
theorem ex_load_ref {a : Addr} {v : Value} (ho : o.op = .load T x) (ht : plainT P T = true) (hx : evL L x = some (.pointer (some a))) (hc : w0.cell? a = some v) (hS : Sat w0 w l) : Runs P L w o (.value v) w :=
  ex_load ho ht hx (by rw [hS.below.cell (World.block_lt_of_cell? w0 _ hc)]; exact hc)
/-! Sort -/
theorem ints_list (f : Int → Int) (n : Nat) : cellsOf (ints f) n = ((List.range n).map fun (k : Nat) => f k).map (Value.int .i64) := by
  unfold cellsOf ints
  rw [List.map_map]; rfl
/-- The numbers of a slice, as a list. -/
def listOf (f : Int → Int) (n : Int) : List Int := (List.range n.toNat).map fun (k : Nat) => f k
theorem listOf_length (f : Int → Int) (n : Int) : (listOf f n).length = n.toNat := by simp [listOf]
theorem mem_listOf {f : Int → Int} {n a : Int} : a ∈ listOf f n ↔ ∃ k, 0 ≤ k ∧ k < n ∧ f k = a := by
  unfold listOf
  rw [List.mem_map]
  constructor
  · rintro ⟨k, hk, rfl⟩
    rw [List.mem_range] at hk
    exact ⟨k, by omega, by omega, rfl⟩
  · rintro ⟨k, h0, h1, rfl⟩
    exact ⟨k.toNat, List.mem_range.2 (by omega), by rw [Int.toNat_of_nonneg h0]⟩
/-- A list's numbers as a function. -/
def atOf (l : List Int) : Int → Int := fun k => l.getD k.toNat 0
theorem listOf_atOf (l : List Int) : listOf (atOf l) l.length = l := by
  unfold listOf atOf
  apply List.ext_getElem?
  intro i
  by_cases h : i < l.length
  · simp [h]
  · simp [h]
theorem cells_atOf (l : List Int) (n : Nat) (h : n ≤ l.length) : cellsOf (ints (atOf l)) n = (l.take n).map (Value.int .i64) := by
  rw [ints_list]
  congr 1
  unfold atOf
  apply List.ext_getElem?
  intro i
  rw [List.getElem?_take]
  by_cases hi : i < n
  · have : i < l.length := by omega
    simp [hi, this]
  · simp [hi]
open Go.Sort in
/-- Behind a call that put another list of the same length into a slice of the call's own. -/
theorem Sat.put {l1 l2 : List Ent} {g cap q : Nat} {E : TypeId} {n : Int} {f : Int → Int} {ts : List Int} {os : Array Obj} (h : Sat w0 w (l1 ++ .own (.slice (some ⟨g, 0, none⟩) n.toNat cap) 1 E n (ints f) :: l2)) (hl : ts.length = n.toNat) :
    Sat w0 (grow (putRow (Value.int .i64) (Sort.ahead w q) g 0 ts.toArray) os) (l1 ++ .own (.slice (some ⟨g, 0, none⟩) n.toNat cap) 1 E n (ints (atOf ts)) :: l2) := by
  obtain ⟨h0, h1, ⟨hv, _⟩ | ⟨g', cap', cur, hv, hg, h2, h3, h4, h5⟩⟩ := h.get
  · cases hv
  · cases hv
    have gb := grownBy_sortedI (w := w) (g := g) (n := q) (os := os) ts.toArray
    have hlen : (listOf f n).length = n.toNat := listOf_length f n
    refine h.turn (fun k hk hne => gb.block k hk (fun e => hne (show some g = some k from e.symm))) gb.tape gb.os gb.output gb.size ?_ (fun _ h => .inl h)
    refine Ent.holds.of_owns (base := 0) h0 h1 ?_
    have := ownsRow_sortedI (w := w) (base := 0) (g := g) (cap := cap) (n := q) (e := E) (os := os) (cur := cur) (ss := listOf f n) (ts := ts) (by rw [hlen, hl]) (Nat.zero_le _) hg (by rw [hlen]; exact h2) h3 (by rw [h4])
    rw [hlen] at this
    rw [Nat.mul_one, cells_atOf ts n.toNat (by omega), List.take_of_length_le (by omega)]
    exact this
open Go.Sort in
theorem Sat.held {l1 l2 : List Ent} {g cap : Nat} {E : TypeId} {n : Int} {f : Int → Int} (h : Sat w0 w (l1 ++ .own (.slice (some ⟨g, 0, none⟩) n.toNat cap) 1 E n (ints f) :: l2)) :
    Holds (Value.int .i64) w g 0 (listOf f n).toArray ∧ g < w.heap.size ∧ (listOf f n).length ≤ cap ∧ (listOf f n).length ≤ maxLen := by
  obtain ⟨h0, h1, ⟨hv, _⟩ | ⟨g', cap', cur, hv, hg, h2, h3, h4, h5⟩⟩ := h.get
  · cases hv
  · cases hv
    refine ⟨holds_of_blockI hg ?_, (Array.getElem?_eq_some_iff.1 hg).1, by rw [listOf_length]; exact h2, by rw [listOf_length]; omega⟩
    rw [listOf_length]
    apply List.ext_getElem?
    intro i
    rw [List.getElem?_take]
    by_cases hi : i < n.toNat
    · have := h5 i (by omega)
      simp [hi, this, listOf, ints]
    · simp [hi, listOf]

/-! A part of the entries is put aside -/
def Frame.of (l : List Ent) : Frame where
  holds w := ∀ e ∈ l, e.holds w
  has k := ∃ e ∈ l, e.has k
  keep h hk := fun e he => (h e he).keep fun g hg => hk g ⟨e, he, hg⟩
  lt h hg := by obtain ⟨e, he, hg⟩ := hg; exact (h e he).lt hg
theorem Sat.pack {l1 l2 : List Ent} {d : Ent} (h : Sat w0 w (l1 ++ d :: l2)) : Sat w0 w [d, .sem (Frame.of (l1 ++ l2))] ∧ (l1 ++ l2).Pairwise Apart := by
  have hs : (l1 ++ l2).Sublist (l1 ++ d :: l2) := List.Sublist.append_left (List.sublist_cons_self d l2) l1
  have h1 := List.pairwise_append.1 h.sep
  have h2 := List.pairwise_cons.1 h1.2.1
  refine ⟨⟨h.below, fun e he => ?_, fun e he g hg => ?_, ?_⟩, h.sep.sublist hs⟩
  · rcases List.mem_cons.1 he with rfl | he
    · exact h.get
    · rw [List.mem_singleton] at he; subst he
      exact fun x hx => h.holds x (hs.subset hx)
  · rcases List.mem_cons.1 he with rfl | he
    · exact h.new _ (by simp) g hg
    · rw [List.mem_singleton] at he; subst he
      obtain ⟨x, hx, hg⟩ := hg
      exact h.new x (hs.subset hx) g hg
  · refine List.pairwise_cons.2 ⟨fun e he g hg hg' => ?_, List.pairwise_singleton _ _⟩
    rw [List.mem_singleton] at he; subst he
    obtain ⟨x, hx, hx'⟩ := hg'
    rcases List.mem_append.1 hx with hx | hx
    · exact h1.2.2 x hx d (by simp) g hx' hg
    · exact h2.1 x hx g hg hx'
theorem Sat.unpack {l1 l2 m : List Ent} {d : Ent} (h : Sat w0 w (d :: .sem (Frame.of (l1 ++ l2)) :: m)) (hp : (l1 ++ l2).Pairwise Apart) : Sat w0 w (l1 ++ d :: l2 ++ m) := by
  have hF := h.holds (.sem (Frame.of (l1 ++ l2))) (by simp)
  have h1 := List.pairwise_cons.1 h.sep
  have h2 := List.pairwise_cons.1 h1.2
  have p1 := List.pairwise_append.1 hp
  have af : ∀ x ∈ l1 ++ l2, Apart d x := fun x hx g hg hg' => h1.1 (.sem (Frame.of (l1 ++ l2))) (by simp) g hg ⟨x, hx, hg'⟩
  have am : ∀ x ∈ l1 ++ l2, ∀ y ∈ m, Apart x y := fun x hx y hy g hg hg' => h2.1 y hy g ⟨x, hx, hg⟩ hg'
  refine ⟨h.below, fun e he => ?_, fun e he g hg => ?_, ?_⟩
  · rcases List.mem_append.1 he with he | he
    · rcases List.mem_append.1 he with he | he
      · exact hF e (by simp [he])
      · rcases List.mem_cons.1 he with rfl | he
        · exact h.holds _ (by simp)
        · exact hF e (by simp [he])
    · exact h.holds e (by simp [he])
  · rcases List.mem_append.1 he with he | he
    · rcases List.mem_append.1 he with he | he
      · exact h.new (.sem (Frame.of (l1 ++ l2))) (by simp) g ⟨e, by simp [he], hg⟩
      · rcases List.mem_cons.1 he with rfl | he
        · exact h.new _ (by simp) g hg
        · exact h.new (.sem (Frame.of (l1 ++ l2))) (by simp) g ⟨e, by simp [he], hg⟩
    · exact h.new e (by simp [he]) g hg
  · refine List.pairwise_append.2 ⟨List.pairwise_append.2 ⟨p1.1, List.pairwise_cons.2 ⟨fun x hx => af x (by simp [hx]), p1.2.1⟩, fun x hx y hy => ?_⟩, h2.2, fun x hx y hy => ?_⟩
    · rcases List.mem_cons.1 hy with rfl | hy
      · exact fun g hg hg' => af x (by simp [hx]) g hg' hg
      · exact p1.2.2 x hx y hy
    · rcases List.mem_append.1 hx with hx | hx
      · exact am x (by simp [hx]) y hy
      · rcases List.mem_cons.1 hx with rfl | hx
        · exact h1.1 y (by simp [hy])
        · exact am x (by simp [hx]) y hy
end
end Go.Proofs.Gw
