/- The moves of a printed walk in their short forms. Over any program. -/
import Derived.Test.YtmlfpniaknmmfaaGd
namespace Go.Proofs.Gw
open Go Go.RowKit
set_option linter.unusedVariables false
set_option linter.unusedSimpArgs false

/-! ## Entries by their number -/
theorem split_at {α : Type} {l : List α} {i : Nat} {e : α} (h : l[i]? = some e) : l = l.take i ++ e :: l.drop (i + 1) := by
  induction l generalizing i with
  | nil => simp at h
  | cons x l ih =>
    cases i with
    | zero => simp at h; subst h; rfl
    | succ i => simp at h; have := ih h; simp only [List.take_succ_cons, List.drop_succ_cons, List.cons_append]; rw [← this]
theorem set_at {α : Type} {l : List α} {i : Nat} {e : α} (h : l[i]? = some e) (d : α) : l.set i d = l.take i ++ d :: l.drop (i + 1) := by
  induction l generalizing i with
  | nil => simp at h
  | cons x l ih =>
    cases i with
    | zero => rfl
    | succ i => simp at h; have := ih h; simp only [List.take_succ_cons, List.drop_succ_cons, List.cons_append, List.set_cons_succ]; rw [← this]
section
variable {P : Program} {L : List (Nat × Value)} {w w0 : World} {o : Oper} {x y : Operand} {T : TypeId} {l : List Ent}
theorem Sat.cellN (h : Sat w0 w l) (i : Nat) {g : Nat} {cs : List Value} {k : Nat} {v : Value} (hi : l[i]? = some (.blk g cs)) (hk : cs[k]? = some v) : w.cell? ⟨g, k, none⟩ = some v :=
  (h.holds _ (List.mem_of_getElem? hi)).cell hk
theorem Sat.rowN (h : Sat w0 w l) (i : Nat) {v : Value} {s : Nat} {E : TypeId} {n : Int} {c : Int → Value} (hi : l[i]? = some (.own v s E n c)) : Row w v s n c :=
  (h.holds _ (List.mem_of_getElem? hi)).row
theorem ex_load_blk (i : Nat) {g k : Nat} {cs : List Value} {v : Value} (ho : o.op = .load T x) (ht : plainT P T = true) (hx : evL L x = some (.pointer (some ⟨g, k, none⟩))) (hS : Sat w0 w l) (hi : l[i]? = some (.blk g cs)) (hk : cs[k]? = some v) : Runs P L w o (.value v) w :=
  ex_load ho ht hx (hS.cellN i hi hk)
theorem ex_loads_blk (i : Nat) {g : Nat} {cs : List Value} {k : Nat} (ho : o.op = .load T x) (ht : structT P T = some k) (hx : evL L x = some (.pointer (some ⟨g, 0, none⟩))) (hS : Sat w0 w l) (hi : l[i]? = some (.blk g cs)) (hk : cs.length = k) : Runs P L w o (.value (.agg cs.toArray)) w :=
  ex_loads ho (by rw [ht, hk]) hx (hS.holds _ (List.mem_of_getElem? hi)).cells
theorem ex_load_row {s : Nat} {n k : Int} {c : Int → Value} {v u : Value} (ho : o.op = .load T x) (ht : plainT P T = true) (hx : evL L x = some (.pointer (some (cad v k)))) (hR : Row w v s n c) (h0 : 0 ≤ k) (h1 : k < n * s) (e : c k = u) : Runs P L w o (.value u) w :=
  ex_load ho ht hx (by rw [← e]; exact hR.cell h0 h1)
theorem st_blk (i : Nat) {g k : Nat} {cs : List Value} {v u : Value} (ho : o.op = .store T x y) (ht : plainT P T = true) (hS : Sat w0 w l) (hi : l[i]? = some (.blk g cs)) (hx : evL L x = some (.pointer (some ⟨g, k, none⟩))) (hy : evL L y = some v)
    (hv : v.oneCell' = true) (hk : cs[k]? = some u) : ∃ w', Runs P L w o .skip w' ∧ Sat w0 w' (l.set i (.blk g (cs.set k v))) := by
  have hS' := hS
  rw [split_at hi] at hS'
  rw [set_at hi]
  exact ex_store_blk ho ht hS' hx hy hv hk
theorem st_blks (i : Nat) {g k : Nat} {cs ds : List Value} (ho : o.op = .store T x y) (ht : structT P T = some k) (hS : Sat w0 w l) (hi : l[i]? = some (.blk g cs)) (hx : evL L x = some (.pointer (some ⟨g, 0, none⟩))) (hy : evL L y = some (.agg ds.toArray))
    (hl : (cs.length, ds.length) = (k, k)) (hd : ∀ v ∈ ds, v.oneCell' = true) : ∃ w', Runs P L w o .skip w' ∧ Sat w0 w' (l.set i (.blk g ds)) := by
  have h1 : cs.length = k := congrArg Prod.fst hl
  have h2 : ds.length = k := congrArg Prod.snd hl
  subst h1
  obtain ⟨_, hsz⟩ := struct_of (w := w) ht
  obtain ⟨E, hg⟩ := hS.holds _ (List.mem_of_getElem? hi)
  obtain ⟨w', h3, h4, h5, h6, h7, h8, h9⟩ := run_stores (P := P) g E ds 0 cs w hg (by omega) hd
  refine ⟨w', fun ρ h => ?_, ?_⟩
  · simp [execOp, ho, h _ _ hx, h _ _ hy, Instr.storeAt, Instr.sureAddr, storeVar, Value.cells, hsz, h2, h3]
  · have hS' := hS
    rw [split_at hi] at hS'
    rw [set_at hi]
    refine hS'.turn (fun j _ hj => h5 j (fun e => hj (by rw [e]; rfl))) h6 h7 h8 (by omega) ⟨E, ?_⟩ (fun _ h => .inl h)
    rw [h4, List.take_zero, Nat.zero_add, h2, List.drop_length]; simp
theorem st_own (i : Nat) {v u : Value} {s : Nat} {E : TypeId} {n k : Int} {c d : Int → Value} (ho : o.op = .store T x y) (ht : plainT P T = true) (hS : Sat w0 w l) (hi : l[i]? = some (.own v s E n c)) (hx : evL L x = some (.pointer (some (cad v k)))) (hy : evL L y = some u)
    (hv : u.oneCell' = true) (h0 : 0 ≤ k) (h1 : k < n * s) (e : upd c k u = d) : ∃ w', Runs P L w o .skip w' ∧ Sat w0 w' (l.set i (.own v s E n d)) := by
  subst e
  have hS' := hS
  rw [split_at hi] at hS'
  rw [set_at hi]
  exact ex_store_own ho ht hS' hx hy hv h0 h1
theorem ap_own (i : Nat) {v u : Value} {E : TypeId} {s b : Nat} {n m r : Int} {c d f : Int → Value} {zv : Value} (ho : o.op = .call { callee := .builtin .append, args := #[x, y], argTypes := #[T, T] }) (ht : sliceT P T = some (E, s)) (he : elemT P E = some (zv, s, b)) (hz : zv.cells.size = s) (hs : 0 < s)
    (hS : Sat w0 w l) (hi : l[i]? = some (.own v s E n c)) (hx : evL L x = some v) (hy : evL L y = some u) (hu : Row w u s m d) (h1 : ∀ k, 0 ≤ k → k < m * s → (d k).oneCell' = true) (hr : r = n + m) (hb : b * (n + m) ≤ 140737488355328) (hnm : n + m ≤ 140737488355328) (e : cat (n * s) c d = f) :
    ∃ q w', Runs P L w o (.value q) w' ∧ Sat w0 w' (l.set i (.own q s E r f)) ∧ Slh q r := by
  subst e; subst hr
  have hS' := hS
  rw [split_at hi] at hS'
  obtain ⟨q, w', h2, h3, h4⟩ := ex_append ho ht he hz hs hS' hx hy hu h1 hb hnm
  exact ⟨q, w', h2, by rw [set_at hi]; exact h3, h4⟩
end

theorem Slh.one {v : Value} {n : Int} (h : Slh v n) : v.oneCell' = true := by
  obtain ⟨_, _, a, cap, rfl, _⟩ := h; rfl
theorem B_one (p : Prop) : (B p).oneCell' = true := rfl
theorem ones_nil : ∀ v ∈ ([] : List Value), v.oneCell' = true := by simp
theorem ones_cons {v : Value} {vs : List Value} (h : v.oneCell' = true) (hs : ∀ u ∈ vs, u.oneCell' = true) : ∀ u ∈ v :: vs, u.oneCell' = true := fun u hu => by
  rcases List.mem_cons.1 hu with rfl | hu
  · exact h
  · exact hs u hu
theorem slh_nil : Slh (.slice none 0 0) 0 := ⟨by omega, by omega, none, 0, rfl, .inl rfl⟩
/-- A nil slice is one of the call's own. -/
theorem Sat.recont {w w0 : World} {l : List Ent} (i : Nat) {v : Value} {s : Nat} {E : TypeId} {n : Int} {c d : Int → Value} (h : Sat w0 w l) (hi : l[i]? = some (.own v s E n c)) (e : ∀ k, 0 ≤ k → k < n * s → c k = d k) : Sat w0 w (l.set i (.own v s E n d)) := by
  have h' := h
  rw [split_at hi] at h'
  rw [set_at hi]
  have hg := h'.get
  have hsep := List.pairwise_append.1 h'.sep
  have hs2 := List.pairwise_cons.1 hsep.2.1
  refine ⟨h'.below, fun x hx => ?_, fun x hx g hg => ?_, List.pairwise_append.2 ⟨hsep.1, List.pairwise_cons.2 ⟨fun x hx => hs2.1 x hx, hs2.2⟩, fun x hx y hy => ?_⟩⟩
  · rcases List.mem_append.1 hx with hx | hx
    · exact h'.holds x (by simp [hx])
    · rcases List.mem_cons.1 hx with rfl | hx
      · exact hg.congr e
      · exact h'.holds x (by simp [hx])
  · rcases List.mem_append.1 hx with hx | hx
    · exact h'.new x (by simp [hx]) g hg
    · rcases List.mem_cons.1 hx with rfl | hx
      · exact h'.new (.own v s E n c) (by simp) g hg
      · exact h'.new x (by simp [hx]) g hg
  · rcases List.mem_cons.1 hy with rfl | hy
    · exact hsep.2.2 x hx (.own v s E n c) (by simp)
    · exact hsep.2.2 x hx y (by simp [hy])
theorem Sat.addnil {w w0 : World} {l : List Ent} (h : Sat w0 w l) (s : Nat) (E : TypeId) (c : Int → Value) : Sat w0 w (l ++ [.own (.slice none 0 0) s E 0 c]) := by
  refine h.comp (m := [.own (.slice none 0 0) s E 0 c]) ⟨Below.refl _ _, ?_, ?_, List.pairwise_singleton _ _⟩
  · intro e he
    obtain rfl := List.mem_singleton.1 he
    exact ⟨by omega, by omega, .inl ⟨rfl, rfl⟩⟩
  · intro e he g hg
    obtain rfl := List.mem_singleton.1 he
    simp [Ent.has, Value.ownBlock] at hg
/-- Whole numbers of a kind. -/
def InK (k : IntKind) (n : Int) : Prop := match k with
  | .i64 => -9223372036854775808 ≤ n ∧ n ≤ 9223372036854775807
  | .u8 => 0 ≤ n ∧ n ≤ 255
  | .u16 => 0 ≤ n ∧ n ≤ 65535
  | .u32 => 0 ≤ n ∧ n ≤ 4294967295
  | .u64 => 0 ≤ n ∧ n ≤ 18446744073709551615
  | _ => False
theorem InK.wrap {k : IntKind} {n : Int} (h : InK k n) : k.wrap n = n := by
  by_cases hk : k = .i64
  · subst hk; exact I64.wrap h
  cases k <;> simp only [InK] at h <;> (first | exact h.elim | exact absurd rfl hk | skip) <;> simp only [IntKind.wrap, IntKind.bits, IntKind.signed, Bool.false_and, Bool.false_eq_true, if_false] <;> (try split) <;> omega
theorem ex_conv {P : Program} {L : List (Nat × Value)} {w : World} {o : Oper} {x : Operand} {S D : TypeId} {k k' : IntKind} {n : Int} (ho : o.op = .convert S D x) (hs : (P.underlying S).isSome = true) (hd : P.underlying D = some (.int k')) (hx : evL L x = some (.int k n)) (hr : InK k' n) : Runs P L w o (.value (.int k' n)) w := fun ρ h => by
  obtain ⟨d, hd'⟩ := Option.isSome_iff_exists.mp hs
  have e : (convert S D (.int k n)).run P w = .ok (.int k' (k'.wrap n)) w := by simp [convert, run_underlying hd', run_underlying hd, Conv.intToInt]
  rw [hr.wrap] at e
  simp [execOp, ho, h _ _ hx, e]
/-! ## The ways out of a piece of code -/
section
variable {Q : Exit → Act → World → Prop} {K : Act → World → Prop} {a : Act} {w : World} {id j : Nat}
theorem then_normal (h : K a w) : Exit.then K Q .normal a w := h
theorem then_exit (h : Q (.exit id) a w) : Exit.then K Q (.exit id) a w := h
theorem then_ret (h : Q .ret a w) : Exit.then K Q .ret a w := h
theorem inb_normal (h : Q .normal a w) : Exit.inBlock id Q .normal a w := h
theorem inb_ret (h : Q .ret a w) : Exit.inBlock id Q .ret a w := h
theorem inb_hit (h : Q .normal a w) : Exit.inBlock id Q (.exit id) a w := by
  show if id = id then _ else _
  rw [if_pos rfl]; exact h
theorem inb_miss (hne : Nat.beq j id = false) (h : Q (.exit j) a w) : Exit.inBlock id Q (.exit j) a w := by
  show if j = id then _ else _
  rw [if_neg (fun e => by subst e; simp at hne)]; exact h
end

/-! ## The arguments -/
def num : Nat → List Value → List (Nat × Value)
  | _, [] => []
  | k, v :: r => (k, v) :: num (k + 1) r
theorem lk_num : ∀ (vs : List Value) (k t : Nat) (v : Value), lk (num k vs) t = some v → k ≤ t ∧ vs[t - k]? = some v
  | [], _, _, _, h => by simp [num, lk] at h
  | u :: r, k, t, v, h => by
    simp only [num, lk] at h
    by_cases e : k = t
    · subst e
      rw [Nat.beq_refl] at h
      simp only [cond_true, Option.some.injEq] at h
      subst h
      simp
    · rw [nbeq e] at h
      obtain ⟨h1, h2⟩ := lk_num r (k + 1) t v h
      refine ⟨by omega, ?_⟩
      obtain ⟨d, rfl⟩ : ∃ d, t = k + 1 + d := ⟨t - (k + 1), by omega⟩
      have e1 : k + 1 + d - k = d + 1 := by omega
      have e2 : k + 1 + d - (k + 1) = d := by omega
      rw [e1]; rw [e2] at h2
      simpa using h2
theorem enter {P : Program} {f : FuncId} {fn : Func} {c : Code} {n : Nat} {w : World} {vs : List Value} {R : Ending → World → Prop} (hf : P.funcs[f]? = some fn) (hb : fn.body = some c) (hn : fn.ntmps = n) (hv : Nat.ble vs.length n = true)
    (h : ∀ a, Fr a n [] (num 0 vs) → c.wp P (bodyPost P fn R) a w) : Calls P f vs.toArray w R :=
  calls_enter hf hb hn (Fr.enter (vs := vs.toArray) (by simpa using Nat.le_of_ble_eq_true hv) fun t v ht => by
    have := (lk_num vs 0 t v ht).2
    simpa using this) h
theorem enterS {P : Program} {f : FuncId} {fn : Func} {c : Code} {n : Nat} {w0 : World} {vs : List Value} {R : Ending → World → Prop} (hf : P.funcs[f]? = some fn) (hb : fn.body = some c) (hn : fn.ntmps = n) (hv : Nat.ble vs.length n = true)
    (h : ∀ a w, Sat w0 w [] → Fr a n [] (num 0 vs) → c.wp P (bodyPost P fn R) a w) : Calls P f vs.toArray w0 R :=
  enter hf hb hn hv fun a hF => h a w0 (Sat.start w0) hF
section
variable {P : Program} {L : List (Nat × Value)} {w w0 : World} {o : Oper} {x : Operand}
theorem ex_call0 {g : FuncId} {xs : Array Operand} {ts : Array TypeId} {vs : List Value} (ho : o.op = .call { callee := .value x, args := xs, argTypes := ts }) (hx : evL L x = some (.func (.func g) #[] #[])) (ht : calledT P g = true) (ha : Args L xs vs) : Runs P L w o (.enter g vs.toArray) w :=
  ex_call ho hx ht ha (by simp)
theorem ex_callc {g : FuncId} {xs : Array Operand} {ts : Array TypeId} {vs cap : List Value} (ho : o.op = .call { callee := .value x, args := xs, argTypes := ts }) (hx : evL L x = some (.func (.func g) #[] cap.toArray)) (ht : calledT P g = true) (ha : Args L xs vs) : Runs P L w o (.enter g (vs ++ cap).toArray) w :=
  ex_call ho hx ht ha (by simp)
def Parts (L : List (Nat × Value)) (ps : List (Nat × Operand)) (pv : List (Nat × Value)) : Prop := ∀ ρ, Agr L ρ → (ps.map fun x => (x.1, ρ x.2)) = pv
theorem parts0 : Parts L [] [] := fun _ _ => rfl
theorem parts_cons {i : Nat} {v : Value} {ps : List (Nat × Operand)} {pv : List (Nat × Value)} (hx : evL L x = some v) (h : Parts L ps pv) : Parts L ((i, x) :: ps) ((i, v) :: pv) := fun ρ hρ => by
  rw [List.map_cons, h ρ hρ, hρ x v hx]
/-- A comparison whose outcome is known. -/
theorem known_t {p : Prop} {w' : World} (h : Runs P L w o (.value (B p)) w') (hp : p) : Runs P L w o (.value (.bool true)) w' := by rw [← B_true hp]; exact h
theorem known_f {p : Prop} {w' : World} (h : Runs P L w o (.value (B p)) w') (hp : ¬ p) : Runs P L w o (.value (.bool false)) w' := by rw [← B_false hp]; exact h
/-- Ends with other results. -/
theorem fin0 {fn : Func} {R : Ending → World → Prop} {a : Act} {n : Nat} (hF : Fr a n [] L) (hr : fn.results = #[]) (h : R (.returned (.tuple #[])) w) : bodyPost P fn R .ret a w :=
  ⟨hF.defers, _, by rw [results_none hr], h⟩
theorem results_tmp3 {fn : Func} {t u s : Tmp} (h : fn.results = #[.tmp t, .tmp u, .tmp s]) (tmps : Array Value) (P : Program) (w : World) :
    (results fn tmps).run P w = .ok (.tuple #[tmps.getD t undef, tmps.getD u undef, tmps.getD s undef]) w := by
  simp [results, h]
theorem fin3 {fn : Func} {R : Ending → World → Prop} {a : Act} {n t u s : Nat} {v x y : Value} (hF : Fr a n [] L) (hr : fn.results = #[.tmp t, .tmp u, .tmp s]) (hv : lk L t = some v) (hx : lk L u = some x) (hy : lk L s = some y) (h : R (.returned (.tuple #[v, x, y])) w) : bodyPost P fn R .ret a w :=
  ⟨hF.defers, _, by rw [results_tmp3 hr, hF.get t v hv, hF.get u x hx, hF.get s y hy], h⟩
theorem fin_ct (i : Nat) {l : List Ent} {fn : Func} {R : Ending → World → Prop} {a : Act} {n s t g k : Nat} {T : TypeId} {v : Value} {cs : List Value} (hF : Fr a n [] L) (hr : fn.results = #[.cell s T, .tmp t]) (hs : lk L s = some (.pointer (some ⟨g, 0, none⟩))) (hv : lk L t = some v)
    (ht : structT P T = some k) (hS : Sat w0 w l) (hi : l[i]? = some (.blk g cs)) (hk : cs.length = k) (h : R (.returned (.tuple #[.agg cs.toArray, v])) w) : bodyPost P fn R .ret a w := by
  refine ⟨hF.defers, _, ?_, h⟩
  subst hk
  obtain ⟨h1, h2⟩ := struct_of (w := w) ht
  have h3 := run_loadCells_list (P := P) w ⟨g, 0, none⟩ cs (hS.holds _ (List.mem_of_getElem? hi)).cells
  have e1 := hF.get s _ hs
  have e2 := hF.get t _ hv
  rw [Array.getD_eq_getD_getElem?] at e1 e2
  simp [results, hr, e1, e2, asAddr, loadVar, h1, h2, h3]
theorem fin_c (i : Nat) {l : List Ent} {fn : Func} {R : Ending → World → Prop} {a : Act} {n s g k : Nat} {T : TypeId} {cs : List Value} (hF : Fr a n [] L) (hr : fn.results = #[.cell s T]) (hs : lk L s = some (.pointer (some ⟨g, 0, none⟩)))
    (ht : structT P T = some k) (hS : Sat w0 w l) (hi : l[i]? = some (.blk g cs)) (hk : cs.length = k) (h : R (.returned (.agg cs.toArray)) w) : bodyPost P fn R .ret a w := by
  refine ⟨hF.defers, _, ?_, h⟩
  subst hk
  obtain ⟨h1, h2⟩ := struct_of (w := w) ht
  have h3 := run_loadCells_list (P := P) w ⟨g, 0, none⟩ cs (hS.holds _ (List.mem_of_getElem? hi)).cells
  have e1 := hF.get s _ hs
  rw [Array.getD_eq_getD_getElem?] at e1
  simp [results, hr, e1, asAddr, loadVar, h1, h2, h3]
theorem fin_tct (i : Nat) {l : List Ent} {fn : Func} {R : Ending → World → Prop} {a : Act} {n r s t g k : Nat} {T : TypeId} {u v : Value} {cs : List Value} (hF : Fr a n [] L) (hr : fn.results = #[.tmp r, .cell s T, .tmp t]) (hu : lk L r = some u) (hs : lk L s = some (.pointer (some ⟨g, 0, none⟩))) (hv : lk L t = some v)
    (ht : structT P T = some k) (hS : Sat w0 w l) (hi : l[i]? = some (.blk g cs)) (hk : cs.length = k) (h : R (.returned (.tuple #[u, .agg cs.toArray, v])) w) : bodyPost P fn R .ret a w := by
  refine ⟨hF.defers, _, ?_, h⟩
  subst hk
  obtain ⟨h1, h2⟩ := struct_of (w := w) ht
  have h3 := run_loadCells_list (P := P) w ⟨g, 0, none⟩ cs (hS.holds _ (List.mem_of_getElem? hi)).cells
  have e0 := hF.get r _ hu
  have e1 := hF.get s _ hs
  have e2 := hF.get t _ hv
  rw [Array.getD_eq_getD_getElem?] at e0 e1 e2
  simp [results, hr, e0, e1, e2, asAddr, loadVar, h1, h2, h3]
end
/-- A region that draws: S is 'these blocks hold'. -/
theorem dr_sat {P : Program} {l : List Oper} {Q : Exit → Act → World → Prop} {a : Act} {w w0 : World} {m m0 m1 : List Ent} {fuel id : Nat} (brk : Nat) (hm : P.follows .mixedOrders = true) (hS : Sat w0 w m) (hs : m0.Sublist m) (hs1 : m1.Sublist m) (hn : l.length = fuel)
    (h : ∀ w', Sat w0 w' m → Closed l.toArray (Array.replicate fuel false) → SA (fun w' => Sat w0 w' m0) (fun w' => Sat w0 w' m1) brk (Array.replicate fuel false) w' → wpB P l.toArray (NoPanic Q) (fun w' => Sat w0 w' m0) (fun w' => Sat w0 w' m1) brk fuel (Array.replicate fuel false) a w') : (Code.region id l.toArray true).wp P Q a w :=
  dr_start (fun w' => Sat w0 w' m0) (fun w' => Sat w0 w' m1) brk hm (hS.draw.sub hs) (hS.draw.sub hs1) hn fun h1 h2 h3 => h _ hS.draw h3 ⟨fun _ => h1, h2⟩
end Go.Proofs.Gw
