/- Parts of a slice, copy, a made slice appended. Over any program. -/
import Derived.Test.YtmlfpniaknmmfaaGr
namespace Go.Proofs.Gw
open Go Go.RowKit
set_option linter.unusedVariables false
set_option linter.unusedSimpArgs false

/-- The slice from its place q on; its head of length 0. -/
def sufV (v : Value) (q : Nat) : Value := match v with
  | .slice a len cap => .slice (if cap = q then a else a.map fun x => ⟨x.block, x.off + q, none⟩) (len - q) (cap - q)
  | u => u
def cutV (v : Value) : Value := match v with
  | .slice a _ cap => .slice a 0 cap
  | u => u
/-- A slice whose length is within its capacity. -/
def Roomy (v : Value) : Prop := ∀ a len cap, v = .slice a len cap → len ≤ cap
section
variable {P : Program} {L : List (Nat × Value)} {w w0 : World} {o : Oper} {x y z : Operand} {T T' : TypeId} {l l1 l2 l3 : List Ent} {E : TypeId}
theorem suf_of {v : Value} {n : Int} {q : Nat} (h : Slh v n) (hr : Roomy v) (hq : (q : Int) ≤ n) : Suf (sufV v q) v q n := by
  obtain ⟨h0, h1, a, cap, rfl, hz⟩ := h
  have hc := hr _ _ _ rfl
  refine ⟨⟨by omega, by omega, (if cap = q then a else a.map fun x => ⟨x.block, x.off + q, none⟩), cap - q, ?_, ?_⟩, fun k k0 k1 => ?_⟩
  · unfold sufV; dsimp only; congr 1; omega
  · rcases hz with hz | ⟨b, off, rfl⟩
    · left; omega
    · right; by_cases hcq : cap = q
      · exact ⟨b, off, by rw [if_pos hcq]⟩
      · exact ⟨b, off + q, by rw [if_neg hcq]; rfl⟩
  · rcases hz with hz | ⟨b, off, rfl⟩
    · omega
    · have hcq : cap ≠ q := by omega
      unfold sufV cad; dsimp only
      rw [if_neg hcq]
      have : (k + q).toNat = k.toNat + q := by omega
      simp [this]; omega
theorem ex_slice_lo {v : Value} {n i : Int} {q s : Nat} (ho : o.op = .slice T x (some y) none none) (ht : sliceT P T = some (E, s)) (hs : s = 1) (hx : evL L x = some v) (hy : evL L y = some (.int .i64 i)) (hv : Slh v n) (hi : i = q) (hq1 : 1 ≤ q) (hq : (q : Int) ≤ n) :
    Runs P L w o (.value (sufV v q)) w := fun ρ h => by
  subst hs; subst hi
  obtain ⟨hu, inf, hin, hsz⟩ := slice_of ht
  obtain ⟨h0, h1, a, cap, rfl, hz⟩ := hv
  have hq' : q ≤ n.toNat := by omega
  have hb : (Instr.sliceBounds true n.toNat cap (some (.int .i64 (q : Int))) none none).run P w = .ok (q, n.toNat, cap) w := by
    simp [Instr.sliceBounds, Instr.sliceBound, asIntOf]
    omega
  have e : (Instr.sliceAt T (.slice a n.toNat cap) (some (.int .i64 (q : Int))) none none).run P w = .ok (sufV (.slice a n.toNat cap) q) w := by
    unfold Instr.sliceAt
    simp only [Sem.run_bind, run_underlying hu, Result.andThen_ok, Instr.slice, hb]
    simp [sizeOf, typeInfo, hin, hsz, sufV]
    rcases hz with hz | ⟨b, off, rfl⟩
    · omega
    · by_cases hc : cap = q
      · simp [hc]
      · simp [hc, Addr.add_eq]
  simp [execOp, ho, h _ _ hx, h _ _ hy, e]
theorem Ent.holds.roomy {v : Value} {s : Nat} {n : Int} {c : Int → Value} (h : (Ent.own v s E n c).holds w) : Roomy v := fun a len cap e => by
  obtain ⟨_, _, ⟨rfl, _⟩ | ⟨g, cap', cur, rfl, _, h2, _⟩⟩ := h
  · cases e; omega
  · cases e; exact h2
theorem cut_slh {v : Value} {n : Int} (h : Slh v n) : Slh (cutV v) 0 := by
  obtain ⟨_, _, a, cap, rfl, _⟩ := h
  exact ⟨by omega, by omega, a, cap, rfl, .inl rfl⟩
theorem ex_slice_cut {v : Value} {n : Int} {s : Nat} (ho : o.op = .slice T x none (some y) none) (ht : sliceT P T = some (E, s)) (hx : evL L x = some v) (hy : evL L y = some (.int .i64 0)) (hv : Slh v n) : Runs P L w o (.value (cutV v)) w := fun ρ h => by
  obtain ⟨hu, inf, hin, hsz⟩ := slice_of ht
  obtain ⟨h0, h1, a, cap, rfl, hz⟩ := hv
  have hb : (Instr.sliceBounds true n.toNat cap none (some (.int .i64 0)) none).run P w = .ok (0, 0, cap) w := by
    simp [Instr.sliceBounds, Instr.sliceBound, asIntOf]
  have e : (Instr.sliceAt T (.slice a n.toNat cap) none (some (.int .i64 0)) none).run P w = .ok (cutV (.slice a n.toNat cap)) w := by
    unfold Instr.sliceAt
    simp only [Sem.run_bind, run_underlying hu, Result.andThen_ok, Instr.slice, hb]
    simp [sizeOf, typeInfo, hin, hsz, cutV, Addr.add]
  simp [execOp, ho, h _ _ hx, h _ _ hy, e]
theorem Sat.cut {v : Value} {s : Nat} {n : Int} {c : Int → Value} (i : Nat) (h : Sat w0 w l) (hi : l[i]? = some (.own v s E n c)) (d : Int → Value) : Sat w0 w (l.set i (.own (cutV v) s E 0 d)) := by
  have h' := h
  rw [split_at hi] at h'
  rw [set_at hi]
  refine h'.turn (fun _ _ _ => rfl) rfl rfl rfl (Nat.le_refl _) ?_ (fun g hg => .inl ?_)
  · obtain ⟨_, _, ⟨rfl, _⟩ | ⟨g, cap', cur, rfl, hg, h2, h3, h4, _⟩⟩ := h'.get
    · exact ⟨by omega, by omega, .inl ⟨rfl, rfl⟩⟩
    · exact ⟨by omega, by omega, .inr ⟨g, cap', cur, rfl, hg, by omega, h3, h4, fun k hk => by rw [Int.zero_mul] at hk; omega⟩⟩
  · obtain ⟨_, _, ⟨rfl, _⟩ | ⟨g, cap', cur, rfl, _⟩⟩ := h'.get
    · exact hg
    · exact hg
theorem ex_cap_nil (ho : o.op = .call { callee := .builtin .cap, args := #[x], argTypes := #[T] }) {s : Nat} (ht : sliceT P T = some (E, s)) (hx : evL L x = some (.slice none 0 0)) : Runs P L w o (.value (.int .i64 0)) w := fun ρ h => by
  obtain ⟨hu, _⟩ := slice_of ht
  simp [execOp, ho, resolve, invoke, builtin, h _ _ hx, Builtin.cap_, run_underlying hu]
  rfl
/-- append(nil, make([]T, n)...). -/
theorem ex_append_make {n : Int} {zv : Value} {b : Nat} (ho : o.op = .call { callee := .builtin .append, args := #[x, y], argTypes := #[T, T'] }) (ht : sliceT P T = some (E, 1)) (hk : P.underlying T' = some (.int .i64)) (he : elemT P E = some (zv, 1, b)) (hz : zv.cells = #[zv]) (hb0 : 1 ≤ b)
    (hx : evL L x = some (.slice none 0 0)) (hy : evL L y = some (.int .i64 n)) (h1 : 1 ≤ n) (hb : b * n ≤ 140737488355328) (hS : Sat w0 w l) :
    ∃ u w', Runs P L w o (.value u) w' ∧ Sat w0 w' (l ++ [.own u 1 E n (fun _ => zv)]) ∧ Slh u n := by
  obtain ⟨hut, _⟩ := slice_of ht
  obtain ⟨i, hi, hzz, hsz, hby⟩ := elem_of he
  have hle : n ≤ b * n := by
    have := Int.mul_le_mul_of_nonneg_right (show (1 : Int) ≤ b by omega) (show 0 ≤ n by omega)
    omega
  have hw : IntKind.i64.wrap n = n := by rw [IntKind.wrap_i64]; omega
  have h48 : ¬ (281474976710656 < n * (i.bytes : Int)) := by rw [hby, Int.mul_comm]; omega
  have hn0 : ¬ n < 0 := by omega
  have hbn : ((n.toNat * i.bytes : Nat) : Int) = b * n := by rw [Int.natCast_mul, hby, Int.toNat_of_nonneg (by omega), Int.mul_comm]
  have hcap : ¬ (281474976710656 < Builtin.nextslicecap n.toNat 0 * i.bytes) := by rw [nextslicecap_zero (by omega)]; omega
  have h63 : ¬ (9223372036854775807 < (n.toNat : Int)) := by omega
  have hnz : ¬ n.toNat = 0 := by omega
  have hnz2 : ¬ n.toNat * i.size = 0 := by rw [hsz]; omega
  have hr : ∀ ty, (Builtin.append_ #[T, T'] ty #[.slice none 0 0, .int .i64 n]).run P w = .ok (.slice (some ⟨w.heap.size, 0, none⟩) n.toNat (grownCap w n.toNat 0 E)) (w.drew.alloc (.cells (Builtin.zeroCells zv.cells n.toNat ++ Builtin.zeroCells zv.cells (grownCap w n.toNat 0 E - n.toNat)) E)) := fun ty => by
    simp [Builtin.append_, run_underlying hut, run_underlying hk, sizeOf, typeInfo, zeroValue, hi, hzz, asInt, asIntOf, hw, hn0, h48, hnz, hcap, h63, Question.forced, newRow, grownCap, Builtin.firstCells, hnz2]
    rw [if_neg (by omega), if_neg (by omega)]
  have hge := grownCap_ge w n.toNat 0 E
  have hmx := grownCap_le_maxLen w n.toNat 0 E (by unfold maxLen; omega)
  have hE : (Ent.own (.slice (some ⟨w.heap.size, 0, none⟩) n.toNat (grownCap w n.toNat 0 E)) 1 E n (fun _ => zv)).holds (w.drew.alloc (.cells (Builtin.zeroCells zv.cells n.toNat ++ Builtin.zeroCells zv.cells (grownCap w n.toNat 0 E - n.toNat)) E)) := by
    refine ⟨by omega, by omega, .inr ⟨_, _, _, rfl, by have := heap_alloc_new w.drew (.cells (Builtin.zeroCells zv.cells n.toNat ++ Builtin.zeroCells zv.cells (grownCap w n.toNat 0 E - n.toNat)) E); simpa using this, hge, hmx, ?_, fun k hk => ?_⟩⟩
    · simp [Builtin.zeroCells, hz]; omega
    · have : k < n.toNat := by omega
      rw [Array.getElem?_append_left (by simp [Builtin.zeroCells, hz]; omega)]
      simp [Builtin.zeroCells, hz, this, Nat.mod_one]
  refine ⟨_, _, fun ρ h => ?_, hS.draw.alloc _ hE (fun g hg => by simp [Ent.has, Value.ownBlock] at hg; simp [hg]), hE.row.slh⟩
  simp [execOp, ho, resolve, invoke, builtin, h _ _ hx, h _ _ hy, hr]
/-- copy(dst, src), both of the same length. -/
theorem ex_copy {v u : Value} {n : Int} {c d : Int → Value} (i : Nat) (ho : o.op = .call { callee := .builtin .copy, args := #[x, y], argTypes := #[T, T'] }) (ht : sliceT P T = some (E, 1)) (hx : evL L x = some v) (hy : evL L y = some u) (hS : Sat w0 w l) (hi : l[i]? = some (.own v 1 E n c)) (hR : Row w u 1 n d) (h1 : ∀ k, 0 ≤ k → k < n → (d k).oneCell' = true) :
    ∃ r w', Runs P L w o (.value r) w' ∧ r = .int .i64 n ∧ Sat w0 w' (l.set i (.own v 1 E n d)) := by
  obtain ⟨hu, inf, hin, hsz⟩ := slice_of ht
  have hS' := hS
  rw [split_at hi] at hS'
  rw [set_at hi]
  have hsize : (P.info? E).map (·.size) = some 1 := by rw [hin]; simp [hsz]
  have hg := hS'.get
  have hn0 := hR.slh.n0
  obtain ⟨_, _, a, cap, rfl, hz⟩ := hR.slh
  have done : ∀ {w' : World} (r : Value), (Builtin.copy_ #[T, T'] 0 #[v, .slice a n.toNat cap]).run P w = .ok r w' → Runs P L w o (.value r) w' := fun r hr ρ h => by
    have hr' : ∀ ty, (Builtin.copy_ #[T, T'] ty #[v, .slice a n.toNat cap]) = Builtin.copy_ #[T, T'] 0 #[v, .slice a n.toNat cap] := fun _ => rfl
    simp [execOp, ho, resolve, invoke, builtin, h _ _ hx, h _ _ hy, hr', hr]
  by_cases h0 : n = 0
  · subst h0
    have key : ∃ p q s, v = .slice p q s ∧ q = 0 := by
      obtain ⟨_, _, ⟨rfl, _⟩ | ⟨g, cap', cur, rfl, _⟩⟩ := hg
      · exact ⟨_, _, _, rfl, rfl⟩
      · exact ⟨_, _, _, rfl, rfl⟩
    obtain ⟨p, q, s, rfl, rfl⟩ := key
    have hr := run_copy_none (P := P) w T T' 0 E p a 0 s 0 cap hu hsize rfl
    have h2 := hS'.turn (d := .own (.slice p 0 s) 1 E 0 c) (e := .own (.slice p 0 s) 1 E 0 d) (fun _ _ _ => rfl) rfl rfl rfl (Nat.le_refl _) (hg.congr fun k k0 k1 => by rw [Int.zero_mul] at k1; omega) (fun _ h => .inl h)
    exact ⟨_, _, done _ hr, rfl, h2⟩
  · rcases hz with hz | ⟨b, off, rfl⟩
    · exact absurd hz h0
    · obtain ⟨_, _, ⟨rfl, hz⟩ | ⟨g, cap', cur, rfl, hh, h2, h3, h4, h5⟩⟩ := hg
      · exact absurd hz h0
      · have hl := cellsOf_length d n.toNat
        have hr := run_copy_row (P := P) w T T' 0 E g 0 n.toNat cap' ⟨b, off, none⟩ n.toNat cap cur E (cellsOf d n.toNat) hu hsize hh (by rw [hl]; exact (Nat.min_self _).symm) (fun j t hj => by
          rw [cellsOf_get] at hj
          split at hj
          · rename_i hlt
            cases hj
            have := hR.2 j (by omega)
            rw [Addr.add_eq _ rfl]
            simpa [cad] using this
          · cases hj) (by rw [hl, h4]; omega) (fun t ht => by
          obtain ⟨j, hj⟩ := List.getElem?_of_mem ht
          rw [cellsOf_get] at hj
          split at hj
          · cases hj; exact h1 _ (by omega) (by omega)
          · cases hj)
        rw [hl] at hr
        refine ⟨_, _, done _ hr, by simp [goInt]; omega, ?_⟩
        refine hS'.turn (fun k _ hk => ?_) rfl rfl rfl (by simp [World.setRow]) ⟨by omega, by omega, .inr ⟨g, cap', _, rfl, setRow_heap w g cur _ E _ hh, h2, h3, ?_, fun k hk => ?_⟩⟩ (fun _ h => .inl h)
        · have : k ≠ g := fun e => hk (by rw [e]; rfl)
          simp [World.setRow, Array.getElem?_modify, Ne.symm this]
        · simp [hl, h4]; omega
        · have hk' : k < n.toNat := by omega
          simp [List.getElem?_append, hk', cellsOf]
end
theorem Slh.cells {v : Value} {n : Int} (h : Slh v n) : v.cells = [v].toArray := by
  obtain ⟨_, _, a, cap, rfl, _⟩ := h; rfl
theorem cat_ints1 (n : Int) (f g : Int → Int) : cat (n * 1) (ints f) (ints g) = ints (cat n f g) := by rw [Int.mul_one, cat_ints]
theorem perm_step {l1 l2 m : List Ent} {a : Ent} (h : (l1 ++ l2).Perm m) : (l1 ++ a :: l2).Perm (a :: m) := List.perm_middle.trans (.cons _ h)
theorem row_nil (w : World) (s : Nat) (c : Int → Value) : Row w (.slice none 0 0) s 0 c := ⟨slh_nil, fun k hk => by rw [Int.zero_mul] at hk; omega⟩
theorem results_tmp4 {fn : Func} {t u s r : Tmp} (h : fn.results = #[.tmp t, .tmp u, .tmp s, .tmp r]) (tmps : Array Value) (P : Program) (w : World) :
    (results fn tmps).run P w = .ok (.tuple #[tmps.getD t undef, tmps.getD u undef, tmps.getD s undef, tmps.getD r undef]) w := by
  simp [results, h]
theorem fin4 {P : Program} {L : List (Nat × Value)} {w : World} {fn : Func} {R : Ending → World → Prop} {a : Act} {n t u s r : Nat} {v x y z : Value} (hF : Fr a n [] L) (hr : fn.results = #[.tmp t, .tmp u, .tmp s, .tmp r]) (hv : lk L t = some v) (hx : lk L u = some x) (hy : lk L s = some y) (hz : lk L r = some z) (h : R (.returned (.tuple #[v, x, y, z])) w) : bodyPost P fn R .ret a w :=
  ⟨hF.defers, _, by rw [results_tmp4 hr, hF.get t v hv, hF.get u x hx, hF.get s y hy, hF.get r z hz], h⟩
theorem Sat.rerows {w w0 : World} {l : List Ent} {E : TypeId} {n : Int} {vv vv' : Int → Value} {ln ln' : Int → Int} {f f' : Int → Int → Int} (i : Nat) (h : Sat w0 w l) (hi : l[i]? = some (.sem (Frame.rows E n vv ln f))) (e : ∀ k, 0 ≤ k → k < n → vv k = vv' k ∧ ln k = ln' k ∧ ∀ j, 0 ≤ j → j < ln k → f k j = f' k j) : Sat w0 w (l.set i (.sem (Frame.rows E n vv' ln' f'))) := by
  have h' := h
  rw [split_at hi] at h'
  rw [set_at hi]
  refine h'.turn (fun _ _ _ => rfl) rfl rfl rfl (Nat.le_refl _) ?_ (fun g hg => .inl ?_)
  · have hr := h'.get
    refine ⟨fun k k0 k1 => ?_, fun p q p0 p1 q0 q1 hpq g => ?_⟩
    · obtain ⟨e1, e2, e3⟩ := e k k0 k1
      rw [← e1, ← e2]
      exact (hr.1 k k0 k1).congr fun j j0 j1 => by unfold ints; rw [e3 j j0 (by simpa using j1)]
    · rw [← (e p p0 p1).1, ← (e q q0 q1).1]; exact hr.2 p q p0 p1 q0 q1 hpq g
  · obtain ⟨k, k0, k1, hk⟩ := hg
    exact ⟨k, k0, k1, by rw [(e k k0 k1).1]; exact hk⟩
theorem Sat.recont' {w w0 : World} {l : List Ent} (i : Nat) {v : Value} {s : Nat} {E : TypeId} {n : Int} {c d : Int → Value} (h : Sat w0 w l) (hi : l[i]? = some (.own v s E n c)) (e : ∀ k, 0 ≤ k → k < n * s → c k = d k) : Sat w0 w (l.set i (.own v s E n d)) := h.recont i hi e
end Go.Proofs.Gw
