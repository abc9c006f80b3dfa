/- What each kind of operation yields, said of the frame's list and of the call's own blocks. Over any program. -/
import Derived.Test.YtmlfpniaknmmfaaGm
namespace Go.Proofs.Gw
open Go Go.RowKit
set_option linter.unusedVariables false
set_option linter.unusedSimpArgs false

/-! ## Tables of types, read by the kernel -/
def plainT (P : Program) (T : TypeId) : Bool :=
  match P.underlying T with
  | some (.struct _) | some (.array _ _) | none => false
  | some _ => (P.info? T).map (·.size) == some 1
def structT (P : Program) (T : TypeId) : Option Nat :=
  match P.underlying T with
  | some (.struct _) => (P.info? T).map (·.size)
  | _ => none
def fieldT (P : Program) (T : TypeId) (f : Nat) : Option Nat :=
  match P.underlying T with
  | some (.struct fs) => match fs[f]? with
    | some d => match P.info? d.type with
      | some i => if i.size = 0 then none else some d.offset
      | none => none
    | none => none
  | _ => none
def sliceT (P : Program) (T : TypeId) : Option (TypeId × Nat) :=
  match P.underlying T with
  | some (.slice E) => (P.info? E).map fun i => (E, i.size)
  | _ => none
/-- The element's zero cells and its bytes. -/
def elemT (P : Program) (E : TypeId) : Option (Value × Nat × Nat) :=
  match P.info? E with
  | some i => i.zero.map fun z => (z, i.size, i.bytes)
  | none => none
def calledT (P : Program) (f : FuncId) : Bool :=
  match P.funcs[f]? with
  | some fn => fn.body.isSome && !(fn.name == "runtime.NumGoroutine")
  | none => false

section
variable {P : Program} {L : List (Nat × Value)} {w w0 : World} {o : Oper} {x y z : Operand} {T T' : TypeId}

theorem ex_move {v : Value} (ho : o.op = .move x) (hx : evL L x = some v) : Runs P L w o (.value v) w := fun ρ h => by
  simp [execOp, ho, h x v hx]
theorem ex_assign {v : Value} (ho : o.op = .assign x) (hx : evL L x = some v) : Runs P L w o (.value v) w := fun ρ h => by
  simp [execOp, ho, h x v hx]
theorem ex_pick_t {v : Value} (ho : o.op = .pick x y z) (hx : evL L x = some (.bool true)) (hy : evL L y = some v) : Runs P L w o (.value v) w := fun ρ h => by
  simp [execOp, ho, h _ _ hx, h _ _ hy, asBool]
theorem ex_pick_f {v : Value} (ho : o.op = .pick x y z) (hx : evL L x = some (.bool false)) (hz : evL L z = some v) : Runs P L w o (.value v) w := fun ρ h => by
  simp [execOp, ho, h _ _ hx, h _ _ hz, asBool]

section
variable {m n r : Int}
theorem ex_add (ho : o.op = .binOp .add T x y T') (hx : evL L x = some (.int .i64 m)) (hy : evL L y = some (.int .i64 n)) (e : r = m + n) (hr : I64 r) : Runs P L w o (.value (.int .i64 r)) w := fun ρ h => by
  subst e
  simp [execOp, ho, h _ _ hx, h _ _ hy, go_sem, Op.intArith, hr.wrap]
theorem ex_sub (ho : o.op = .binOp .sub T x y T') (hx : evL L x = some (.int .i64 m)) (hy : evL L y = some (.int .i64 n)) (e : r = m - n) (hr : I64 r) : Runs P L w o (.value (.int .i64 r)) w := fun ρ h => by
  subst e
  simp [execOp, ho, h _ _ hx, h _ _ hy, go_sem, Op.intArith, hr.wrap]
theorem ex_mul (ho : o.op = .binOp .mul T x y T') (hx : evL L x = some (.int .i64 m)) (hy : evL L y = some (.int .i64 n)) (e : r = m * n) (hr : I64 r) : Runs P L w o (.value (.int .i64 r)) w := fun ρ h => by
  subst e
  simp [execOp, ho, h _ _ hx, h _ _ hy, go_sem, Op.intArith, hr.wrap]
theorem ex_quo (ho : o.op = .binOp .quo T x y T') (hx : evL L x = some (.int .i64 m)) (hy : evL L y = some (.int .i64 n)) (hn : n ≠ 0) (e : r = m.tdiv n) (hr : I64 r) : Runs P L w o (.value (.int .i64 r)) w := fun ρ h => by
  subst e
  simp [execOp, ho, h _ _ hx, h _ _ hy, go_sem, Op.intDiv, hn, hr.wrap]
theorem ex_rem (ho : o.op = .binOp .rem T x y T') (hx : evL L x = some (.int .i64 m)) (hy : evL L y = some (.int .i64 n)) (hn : n ≠ 0) (e : r = m.tmod n) : Runs P L w o (.value (.int .i64 r)) w := fun ρ h => by
  subst e
  simp [execOp, ho, h _ _ hx, h _ _ hy, go_sem, Op.intDiv, hn]
theorem ex_neg (ho : o.op = .unOp .neg T x) (hx : evL L x = some (.int .i64 m)) (e : r = -m) (hr : I64 r) : Runs P L w o (.value (.int .i64 r)) w := fun ρ h => by
  subst e
  have := hr.wrap
  simp [execOp, ho, h _ _ hx, Op.unary, Op.intArith, this]
variable {k : IntKind}
theorem ex_lss (ho : o.op = .binOp .lss T x y T') (hx : evL L x = some (.int k m)) (hy : evL L y = some (.int k n)) : Runs P L w o (.value (B (m < n))) w := fun ρ h => by
  rw [← B_dec]; simp [execOp, ho, h _ _ hx, h _ _ hy, go_sem]
theorem ex_leq (ho : o.op = .binOp .leq T x y T') (hx : evL L x = some (.int k m)) (hy : evL L y = some (.int k n)) : Runs P L w o (.value (B (m ≤ n))) w := fun ρ h => by
  rw [← B_dec]; simp [execOp, ho, h _ _ hx, h _ _ hy, go_sem]
theorem ex_gtr (ho : o.op = .binOp .gtr T x y T') (hx : evL L x = some (.int k m)) (hy : evL L y = some (.int k n)) : Runs P L w o (.value (B (n < m))) w := fun ρ h => by
  rw [← B_dec]; simp [execOp, ho, h _ _ hx, h _ _ hy, go_sem]
theorem ex_geq (ho : o.op = .binOp .geq T x y T') (hx : evL L x = some (.int k m)) (hy : evL L y = some (.int k n)) : Runs P L w o (.value (B (n ≤ m))) w := fun ρ h => by
  rw [← B_dec]; simp [execOp, ho, h _ _ hx, h _ _ hy, go_sem]
theorem beq_dec (m n : Int) : (m == n) = decide (m = n) := by
  rw [Bool.eq_iff_iff]; simp
theorem bne_dec (m n : Int) : (m != n) = decide (m ≠ n) := by
  rw [Bool.eq_iff_iff]; simp
theorem ex_eql (ho : o.op = .binOp .eql T x y T') (hx : evL L x = some (.int k m)) (hy : evL L y = some (.int k n)) : Runs P L w o (.value (B (m = n))) w := fun ρ h => by
  rw [← B_dec]; simp [execOp, ho, h _ _ hx, h _ _ hy, go_sem, beq_dec]
theorem ex_neq (ho : o.op = .binOp .neq T x y T') (hx : evL L x = some (.int k m)) (hy : evL L y = some (.int k n)) : Runs P L w o (.value (B (m ≠ n))) w := fun ρ h => by
  rw [← B_dec]; simp [execOp, ho, h _ _ hx, h _ _ hy, go_sem, bne_dec]
theorem ex_not {p : Prop} (ho : o.op = .unOp .not T x) (hx : evL L x = some (B p)) : Runs P L w o (.value (B (¬ p))) w := fun ρ h => by
  have e : Op.unary .not (B p) = pure (B (¬ p)) := by
    by_cases hp : p
    · rw [B_true hp, B_false (fun h => h hp)]; rfl
    · rw [B_false hp, B_true hp]; rfl
  simp [execOp, ho, h _ _ hx, e]
theorem ex_not_t (ho : o.op = .unOp .not T x) (hx : evL L x = some (.bool true)) : Runs P L w o (.value (.bool false)) w := fun ρ h => by
  simp [execOp, ho, h _ _ hx, Op.unary]
theorem ex_not_f (ho : o.op = .unOp .not T x) (hx : evL L x = some (.bool false)) : Runs P L w o (.value (.bool true)) w := fun ρ h => by
  simp [execOp, ho, h _ _ hx, Op.unary]
theorem ex_max {ts : Array TypeId} (ho : o.op = .call { callee := .builtin .max, args := #[x, y], argTypes := ts }) (hx : evL L x = some (.int k m)) (hy : evL L y = some (.int k n)) (e : r = max m n) : Runs P L w o (.value (.int k r)) w := fun ρ h => by
  subst e
  have : (if n > m then n else m) = max m n := by rw [Int.max_def]; split <;> split <;> omega
  simp [execOp, ho, resolve, invoke, builtin, h _ _ hx, h _ _ hy, Builtin.max_, Builtin.max2, this]
theorem ex_min {ts : Array TypeId} (ho : o.op = .call { callee := .builtin .min, args := #[x, y], argTypes := ts }) (hx : evL L x = some (.int k m)) (hy : evL L y = some (.int k n)) (e : r = min m n) : Runs P L w o (.value (.int k r)) w := fun ρ h => by
  subst e
  have : (if n < m then n else m) = min m n := by rw [Int.min_def]; split <;> split <;> omega
  simp [execOp, ho, resolve, invoke, builtin, h _ _ hx, h _ _ hy, Builtin.min_, Builtin.min2, this]
end

/-! Slices -/
theorem slice_of {T E : TypeId} {s : Nat} (h : sliceT P T = some (E, s)) : P.underlying T = some (.slice E) ∧ ∃ i, P.info? E = some i ∧ i.size = s := by
  unfold sliceT at h
  split at h
  · rename_i E' hu
    cases hi : P.info? E' with
    | none => simp [hi] at h
    | some i => simp [hi] at h; obtain ⟨rfl, rfl⟩ := h; exact ⟨hu, i, hi, rfl⟩
  · cases h
theorem ex_len {v : Value} {n : Int} {E : TypeId} {s : Nat} (ho : o.op = .call { callee := .builtin .len, args := #[x], argTypes := #[T] }) (ht : sliceT P T = some (E, s)) (hx : evL L x = some v) (hv : Slh v n) :
    Runs P L w o (.value (.int .i64 n)) w := fun ρ h => by
  obtain ⟨hu, _⟩ := slice_of ht
  obtain ⟨h0, h1, a, cap, rfl, _⟩ := hv
  have e : goInt (max n 0) = .int .i64 n := by rw [Int.max_eq_left h0]; rfl
  simp [execOp, ho, resolve, invoke, builtin, h _ _ hx, Builtin.len_, run_underlying hu, e]
theorem Addr.add_eq (a : Addr) (h : a.spot = none) (k : Nat) : a.add k = ⟨a.block, a.off + k, none⟩ := by
  unfold Addr.add
  split
  · rename_i e; subst e; cases a; simp at h; simp [h]
  · rfl
theorem ex_index {v : Value} {n i k : Int} {E : TypeId} {s : Nat} (ho : o.op = .indexAddr T x y) (ht : sliceT P T = some (E, s)) (hx : evL L x = some v) (hy : evL L y = some (.int .i64 i)) (hv : Slh v n) (h0 : 0 ≤ i) (h1 : i < n) (e : k = i * s) :
    Runs P L w o (.value (.pointer (some (cad v k)))) w := fun ρ h => by
  subst e
  obtain ⟨hu, inf, hi, rfl⟩ := slice_of ht
  obtain ⟨hn, _, a, cap, rfl, hz | ⟨b, off, rfl⟩⟩ := hv
  · omega
  · have hlt : ¬ max n 0 ≤ i := by omega
    have hmul : (i * (inf.size : Int)).toNat = i.toNat * inf.size := by
      obtain ⟨j, rfl⟩ := Int.eq_ofNat_of_zero_le h0
      rw [← Int.natCast_mul]; exact Int.toNat_natCast _
    simp [execOp, ho, h _ _ hx, h _ _ hy, Instr.indexAt, run_underlying hu, asIntOf, sizeOf, typeInfo, hi, cad, Addr.add_eq, hmul, h0]
    exact fun h => absurd h hlt

/-! Addresses and loads -/
theorem field_of {T : TypeId} {f off : Nat} (h : fieldT P T f = some off) : ∃ (fs : Array Field) (d : Field) (i : TypeInfo), P.underlying T = some (.struct fs) ∧ fs[f]? = some d ∧ P.info? d.type = some i ∧ i.size ≠ 0 ∧ d.offset = off := by
  unfold fieldT at h
  split at h
  · rename_i fs hu
    split at h
    · rename_i d hd
      split at h
      · rename_i i hi
        split at h
        · cases h
        · rename_i hs; cases h; exact ⟨fs, d, i, hu, hd, hi, hs, rfl⟩
      · cases h
    · cases h
  · cases h
theorem ex_field {a b : Addr} {f off : Nat} (ho : o.op = .fieldAddr T x f) (ht : fieldT P T f = some off) (hx : evL L x = some (.pointer (some a))) (ha : a.add off = b) :
    Runs P L w o (.value (.pointer (some b))) w := fun ρ h => by
  subst ha
  obtain ⟨fs, d, i, hu, hd, hi, hs, rfl⟩ := field_of ht
  simp [execOp, ho, h _ _ hx, Instr.fieldAt, run_underlying hu, hd, Instr.sureAddr, fieldPlace, sizeOf, typeInfo, hi, hs]
theorem cad_add {v : Value} {n : Int} (hv : Slh v n) {k : Int} (h0 : 0 ≤ k) (hn : 0 < n) (off : Nat) : (cad v k).add off = cad v (k + off) := by
  obtain ⟨_, _, a, cap, rfl, hz | ⟨b, o, rfl⟩⟩ := hv
  · omega
  · rw [Addr.add_eq _ rfl]
    have : (k + off).toNat = k.toNat + off := by omega
    simp [cad, this, Nat.add_assoc]
theorem plain_of {T : TypeId} (h : plainT P T = true) : (∃ d, P.underlying T = some d ∧ (isAgg T).run P w = .ok false w) ∧ ∃ i, P.info? T = some i ∧ i.size = 1 := by
  unfold plainT at h
  split at h
  · cases h
  · cases h
  · cases h
  · rename_i d h1 h2 hu
    refine ⟨⟨d, hu, ?_⟩, ?_⟩
    · unfold isAgg
      rw [Sem.run_bind, run_underlying hu, Result.andThen_ok]
      cases d <;> first | rfl | (exact absurd rfl (h1 _)) | (exact absurd rfl (h2 _ _))
    · cases hi : P.info? T with
      | none => simp [hi] at h
      | some i => simp [hi] at h; exact ⟨i, rfl, h⟩
theorem ex_load {a : Addr} {v : Value} (ho : o.op = .load T x) (ht : plainT P T = true) (hx : evL L x = some (.pointer (some a))) (hc : w.cell? a = some v) : Runs P L w o (.value v) w := fun ρ h => by
  obtain ⟨⟨d, hu, hA⟩, _⟩ := plain_of (w := w) ht
  simp [execOp, ho, h _ _ hx, Instr.loadAt, Instr.sureAddr, loadVar, hA, hc]
theorem struct_of {T : TypeId} {n : Nat} (h : structT P T = some n) : (isAgg T).run P w = .ok true w ∧ (sizeOf T).run P w = .ok n w := by
  unfold structT at h
  split at h
  · rename_i fs hu
    cases hi : P.info? T with
    | none => simp [hi] at h
    | some i =>
      simp [hi] at h; subst h
      exact ⟨by unfold isAgg; rw [Sem.run_bind, run_underlying hu]; rfl, by simp [sizeOf, typeInfo, hi]⟩
  · cases h
theorem ex_loads {a : Addr} {cs : List Value} (ho : o.op = .load T x) (ht : structT P T = some cs.length) (hx : evL L x = some (.pointer (some a))) (hc : ∀ j v, cs[j]? = some v → w.cell? (a.add j) = some v) : Runs P L w o (.value (.agg cs.toArray)) w := fun ρ h => by
  obtain ⟨h1, h2⟩ := struct_of (w := w) ht
  simp [execOp, ho, h _ _ hx, Instr.loadAt, Instr.sureAddr, loadVar, h1, h2, run_loadCells_list (P := P) w a cs hc]
theorem Ent.holds.cells {g : Nat} {cs : List Value} (h : (Ent.blk g cs).holds w) : ∀ j v, cs[j]? = some v → w.cell? ((⟨g, 0, none⟩ : Addr).add j) = some v := fun j v hv => by
  rw [Addr.add_eq _ rfl]
  have := h.cell hv
  simpa using this
/-- What a variable's cell holds (its place in the list of blocks: behind l1). -/
theorem Sat.cellAt {l1 l2 : List Ent} {g : Nat} {cs : List Value} (hS : Sat w0 w (l1 ++ .blk g cs :: l2)) {k : Nat} {v : Value} (hv : cs[k]? = some v) : w.cell? ⟨g, k, none⟩ = some v := hS.get.cell hv
theorem Sat.rowAt {l1 l2 : List Ent} {v : Value} {s : Nat} {E : TypeId} {n : Int} {c : Int → Value} (hS : Sat w0 w (l1 ++ .own v s E n c :: l2)) : Row w v s n c := hS.get.row

/-! Stores -/
theorem ex_store {a : Addr} {v u : Value} (ho : o.op = .store T x y) (ht : plainT P T = true) (hx : evL L x = some (.pointer (some a))) (hy : evL L y = some v) (hv : v.oneCell' = true) (hc : w.cell? a = some u) (hf : w.frozen? a = false) :
    Runs P L w o .skip (w.setCell a v) := fun ρ h => by
  obtain ⟨_, i, hi, hsz⟩ := plain_of (w := w) ht
  have hcs : v.cells = #[v] := by cases v <;> first | rfl | (simp [Value.oneCell'] at hv)
  have hadd : a.add 0 = a := by simp [Addr.add]
  simp [execOp, ho, h _ _ hx, h _ _ hy, Instr.storeAt, Instr.sureAddr, storeVar, sizeOf, typeInfo, hi, hsz, hcs, storeCells, hadd, run_store P w a v _ hv, hc, hf]
theorem ex_store_blk {l1 l2 : List Ent} {g k : Nat} {cs : List Value} {v u : Value} (ho : o.op = .store T x y) (ht : plainT P T = true) (hS : Sat w0 w (l1 ++ .blk g cs :: l2)) (hx : evL L x = some (.pointer (some ⟨g, k, none⟩))) (hy : evL L y = some v)
    (hv : v.oneCell' = true) (hk : cs[k]? = some u) : ∃ w', Runs P L w o .skip w' ∧ Sat w0 w' (l1 ++ .blk g (cs.set k v) :: l2) :=
  ⟨_, ex_store ho ht hx hy hv (hS.get.cell hk) (hS.get.free k), hS.setBlk k v⟩
theorem ex_store_own {l1 l2 : List Ent} {v u : Value} {s : Nat} {E : TypeId} {n k : Int} {c : Int → Value} (ho : o.op = .store T x y) (ht : plainT P T = true) (hS : Sat w0 w (l1 ++ .own v s E n c :: l2)) (hx : evL L x = some (.pointer (some (cad v k)))) (hy : evL L y = some u)
    (hv : u.oneCell' = true) (h0 : 0 ≤ k) (h1 : k < n * s) : ∃ w', Runs P L w o .skip w' ∧ Sat w0 w' (l1 ++ .own v s E n (upd c k u) :: l2) := by
  refine ⟨_, ex_store ho ht hx hy hv (hS.get.row.cell h0 h1) ?_, hS.setOwn k h0 h1 u⟩
  rcases hS.get.freeRow k with h | h
  · obtain ⟨_, _, ⟨_, rfl⟩ | ⟨g, cap, cur, rfl, _⟩⟩ := hS.get
    · rw [Int.zero_mul] at h1; omega
    · cases h
  · exact h

/-- A whole struct is stored into a variable. -/
theorem run_stores (g : Nat) (E : TypeId) : ∀ (vs : List Value) (k : Nat) (cur : List Value) (w : World), w.heap[g]? = some (.cells cur.toArray E (0, 0)) → k + vs.length ≤ cur.length → (∀ v ∈ vs, v.oneCell' = true) →
    ∃ w', (storeCells ⟨g, 0, none⟩ vs k).run P w = .ok () w' ∧ w'.heap[g]? = some (.cells (cur.take k ++ vs ++ cur.drop (k + vs.length)).toArray E (0, 0)) ∧ (∀ j, j ≠ g → w'.heap[j]? = w.heap[j]?) ∧ w'.tape = w.tape ∧ w'.os = w.os ∧ w'.output = w.output ∧ w'.heap.size = w.heap.size
  | [], k, cur, w, hg, hk, _ => ⟨w, rfl, by simp [hg], fun _ _ => rfl, rfl, rfl, rfl, rfl⟩
  | v :: vs, k, cur, w, hg, hk, h1 => by
    simp only [List.length_cons] at hk
    have hv := h1 v (by simp)
    have hlt : k < cur.length := by omega
    have hc : w.cell? ⟨g, k, none⟩ = some cur[k] := by simp [World.cell?, hg, hlt]
    have hf : w.frozen? ⟨g, k, none⟩ = false := by simp [World.frozen?, hg]
    have hg' : (w.setCell ⟨g, k, none⟩ v).heap[g]? = some (.cells (cur.set k v).toArray E (0, 0)) := by simp [World.setCell, Array.getElem?_modify, hg]
    obtain ⟨w', h2, h3, h4, h5, h6, h7, h8⟩ := run_stores g E vs (k + 1) (cur.set k v) (w.setCell ⟨g, k, none⟩ v) hg' (by simp; omega) (fun u hu => h1 u (by simp [hu]))
    refine ⟨w', ?_, ?_, fun j hj => ?_, h5, h6, h7, ?_⟩
    · have e0 : (⟨g, 0, none⟩ : Addr).add k = ⟨g, k, none⟩ := by rw [Addr.add_eq _ rfl]; simp
      simp only [storeCells, Sem.run_bind, e0]
      rw [run_store P w _ v _ hv, hc]
      simp only [hf]
      exact h2
    · rw [h3]
      congr 3
      have e1 : (cur.set k v).take (k + 1) = cur.take k ++ [v] := by
        rw [List.take_set, List.take_succ_eq_append_getElem hlt, List.set_append_right _ _ (by simp; omega)]
        simp [Nat.min_eq_left (Nat.le_of_lt hlt)]
      have e2 : (cur.set k v).drop (k + 1 + vs.length) = cur.drop (k + (v :: vs).length) := by
        rw [List.drop_set_of_lt (by omega)]; congr 1; simp; omega
      rw [e1, e2]; simp
    · rw [h4 j hj]; exact Below.heap_setCell _ _ _ _ hj
    · rw [h8]; simp [World.setCell]
/-! New blocks -/
theorem elem_of {E : TypeId} {z : Value} {s b : Nat} (h : elemT P E = some (z, s, b)) : ∃ i, P.info? E = some i ∧ i.zero = some z ∧ i.size = s ∧ i.bytes = b := by
  unfold elemT at h
  split at h
  · rename_i i hi
    cases hz : i.zero with
    | none => simp [hz] at h
    | some z' => simp [hz] at h; obtain ⟨rfl, rfl, rfl⟩ := h; exact ⟨i, hi, hz, rfl, rfl⟩
  · cases h
theorem ex_box {l : List Ent} {v : Value} {cs : List Value} (ho : o.op = .box T x) (hS : Sat w0 w l) (hx : evL L x = some v) (hc : v.cells = cs.toArray) :
    ∃ u w', Runs P L w o (.value u) w' ∧ ∃ g, u = .pointer (some ⟨g, 0, none⟩) ∧ Sat w0 w' (l ++ [.blk g cs]) := by
  refine ⟨_, w.alloc (.cells cs.toArray T), fun ρ h => ?_, w.heap.size, rfl, hS.box cs T⟩
  simp [execOp, ho, h _ _ hx, Instr.box, newVar, newRow, hc]
theorem ex_alloc {l : List Ent} {z : Value} {s b : Nat} {cs : List Value} (ho : o.op = .alloc T) (ht : elemT P T = some (z, s, b)) (hS : Sat w0 w l) (hc : z.cells = cs.toArray) :
    ∃ u w', Runs P L w o (.value u) w' ∧ ∃ g, u = .pointer (some ⟨g, 0, none⟩) ∧ Sat w0 w' (l ++ [.blk g cs]) := by
  refine ⟨_, w.alloc (.cells cs.toArray T), fun ρ h => ?_, w.heap.size, rfl, hS.box cs T⟩
  obtain ⟨i, hi, hz, _⟩ := elem_of ht
  simp [execOp, ho, Instr.alloc, zeroValue, typeInfo, hi, hz, newVar, newRow, hc]
theorem own_new {w : World} {E : TypeId} {s : Nat} {n : Int} {c : Int → Value} {cur : Array Value} (h0 : 0 ≤ n) (h1 : n ≤ 140737488355328) (hs : cur.size = n.toNat * s) (hc : ∀ k : Nat, (k : Int) < n * s → cur[k]? = some (c k)) :
    (Ent.own (.slice (some ⟨w.heap.size, 0, none⟩) n.toNat n.toNat) s E n c).holds (w.alloc (.cells cur E)) :=
  ⟨h0, h1, .inr ⟨_, _, _, rfl, heap_alloc_new w _, Nat.le_refl _, by unfold maxLen; omega, hs, hc⟩⟩
theorem ex_make {l : List Ent} {E : TypeId} {s b : Nat} {n : Int} {zv : Value} (ho : o.op = .makeSlice T x y) (ht : sliceT P T = some (E, s)) (he : elemT P E = some (zv, s, b)) (hz : zv.cells = #[zv]) (hs : s = 1) (hS : Sat w0 w l)
    (hx : evL L x = some (.int .i64 n)) (hy : evL L y = some (.int .i64 n)) (h0 : 0 ≤ n) (hb : b * n ≤ 140737488355328) (h1 : n ≤ 140737488355328) :
    ∃ u w', Runs P L w o (.value u) w' ∧ Sat w0 w' (l ++ [.own u s E n (fun _ => zv)]) ∧ Slh u n := by
  subst hs
  obtain ⟨hu, _⟩ := slice_of ht
  obtain ⟨i, hi, hzz, hsz, hby⟩ := elem_of he
  · have hrun : ∀ w : World, (Instr.makeSlice T (.int .i64 n) (.int .i64 n)).run P w = .ok (.slice (some ⟨w.heap.size, 0, none⟩) n.toNat n.toNat) (w.alloc (.cells (madeCells zv.cells (n.toNat * i.size)) E)) := fun w =>
      run_make w T E i zv hu hi hzz .i64 .i64 n n h0 (Int.le_refl _) (by rw [hby]; omega) (by omega)
    refine ⟨_, w.alloc (.cells (madeCells zv.cells (n.toNat * i.size)) E), fun ρ h => ?_, hS.alloc _ (own_new (s := 1) h0 h1 (by simp [madeCells, hsz]) ?_) ?_, ⟨h0, h1, _, _, rfl, .inr ⟨_, _, rfl⟩⟩⟩
    · simp [execOp, ho, h _ _ hx, h _ _ hy, hrun]
    · intro k hk
      have : k < n.toNat * i.size := by rw [hsz]; omega
      rw [hz]
      simp [madeCells, this, Nat.mod_one]
    · intro g hg; simp [Ent.has, Value.ownBlock] at hg; exact hg.symm
/-- A slice literal that is not empty. -/
theorem ex_lit {l : List Ent} {E : TypeId} {s b len : Nat} {parts : Array (Nat × Operand)} {pv : List (Nat × Value)} {cs : List Value} {n : Int} {c : Int → Value} {zv : Value} (ho : o.op = .buildSlice T len parts) (ht : sliceT P T = some (E, s)) (he : elemT P E = some (zv, s, b)) (hS : Sat w0 w l)
    (hp : ∀ ρ, Agr L ρ → (parts.toList.map fun x => (x.1, ρ x.2)) = pv) (hf : Instr.fill (fun i => some (i * s, s)) ((Array.range (len * s)).map fun j => zv.cells[j % zv.cells.size]!) pv = some cs.toArray)
    (hl : len * s ≤ 16777216) (hl0 : len * s ≠ 0) (hn : n = len) (hcs : cs.length = len * s) (hc : ∀ k : Nat, (k : Int) < n * s → cs[k]? = some (c k)) (h1 : n ≤ 140737488355328) :
    ∃ u w', Runs P L w o (.value u) w' ∧ Sat w0 w' (l ++ [.own u s E n c]) ∧ Slh u n := by
  obtain ⟨hu, _⟩ := slice_of ht
  obtain ⟨i, hi, hzz, rfl, hby⟩ := elem_of he
  have e : n.toNat = len := by omega
  refine ⟨.slice (some ⟨w.heap.size, 0, none⟩) n.toNat n.toNat, w.alloc (.cells cs.toArray E), fun ρ h => ?_, hS.alloc _ (own_new (s := i.size) (by omega) h1 (by rw [e]; simpa using hcs) (fun k hk => by simpa using hc k hk)) ?_, ⟨by omega, h1, _, _, rfl, .inr ⟨_, _, rfl⟩⟩⟩
  · have hp' := hp ρ h
    have hnot : ¬ 16777216 < len * i.size := by omega
    simp [execOp, ho, Instr.buildSlice, run_underlying hu, sizeOf, typeInfo, hi, hl0, hnot, zeroValue, hzz, hp', hf, newRow, e]
  · intro g hg; simp [Ent.has, Value.ownBlock] at hg; exact hg.symm
/-- The empty slice literal. -/
theorem ex_lit0 {l : List Ent} {E : TypeId} {s : Nat} {c : Int → Value} (ho : o.op = .buildSlice T 0 #[]) (ht : sliceT P T = some (E, s)) (hS : Sat w0 w l) :
    ∃ u w', Runs P L w o (.value u) w' ∧ Sat w0 w' (l ++ [.own u s E 0 c]) ∧ Slh u 0 := by
  obtain ⟨hu, i, hi, rfl⟩ := slice_of ht
  refine ⟨.slice (some ⟨w.heap.size, 0, none⟩) 0 0, w.alloc (.cells #[] E), fun ρ h => ?_, hS.alloc _ (own_new (n := 0) (s := i.size) (by omega) (by omega) (by simp) (fun k hk => by rw [Int.zero_mul] at hk; omega)) ?_, ⟨by omega, by omega, _, _, rfl, .inr ⟨_, _, rfl⟩⟩⟩
  · simp [execOp, ho, Instr.buildSlice, run_underlying hu, sizeOf, typeInfo, hi, Instr.fill, newRow]
    exact congrArg (fun c => w.alloc (.cells c E)) (by simp [Array.range])
  · intro g hg; simp [Ent.has, Value.ownBlock] at hg; exact hg.symm
end
end Go.Proofs.Gw
