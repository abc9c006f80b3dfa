/- Parts of a slice at bounds that are names; copy into a part of an owned slice. Over any program. -/
import Derived.Test.YtopmifmfecfaaaaGc
namespace Go.Proofs.Gw
open Go Go.RowKit
set_option linter.unusedVariables false
set_option linter.unusedSimpArgs false

/-- The slice's head of length q. -/
def preV (v : Value) (q : Nat) : Value := match v with
  | .slice a _ cap => .slice a q cap
  | u => u
section
variable {P : Program} {L : List (Nat × Value)} {w w0 : World} {o : Oper} {x y z : Operand} {T T' : TypeId} {l : List Ent} {E : TypeId}
theorem pre_slh {v : Value} {n : Int} {q : Nat} (h : Slh v n) (hq : (q : Int) ≤ n) : Slh (preV v q) q := by
  obtain ⟨h0, h1, a, cap, rfl, hz⟩ := h
  refine ⟨by omega, by omega, a, cap, rfl, ?_⟩
  rcases hz with hz | hz
  · left; omega
  · exact .inr hz
theorem pre_row {v : Value} {n : Int} {q : Nat} {c : Int → Value} (h : Row w v 1 n c) (hq : (q : Int) ≤ n) : Row w (preV v q) 1 q c := by
  refine ⟨pre_slh h.slh hq, fun k hk => ?_⟩
  have h2 := h.2 k (by omega)
  obtain ⟨_, _, a, cap, rfl, _⟩ := h.slh
  cases a <;> exact h2
theorem suf_row {v : Value} {n : Int} {q : Nat} {c : Int → Value} (h : Row w v 1 n c) (hr : Roomy v) (hq : (q : Int) ≤ n) : Row w (sufV v q) 1 (n - q) (fun k => c (k + q)) := (suf_of h.slh hr hq).row (by omega) h
theorem xsl_lo {v : Value} {n i : Int} (q : Nat) (ht : sliceT P T = some (E, 1)) (hv : Slh v n) (hq : (q : Int) = i := by omega) (hn : 0 < n := by omega) (h1 : i ≤ n := by omega) (ho : o.op = .slice T x (some y) none none := by exact rfl) (hx : evL L x = some v := by exact rfl) (hy : evL L y = some (.int .i64 i) := by exact rfl) :
    Runs P L w o (.value (sufV v q)) w := fun ρ h => by
  obtain ⟨hu, inf, hin, hsz⟩ := slice_of ht
  obtain ⟨_, _, a, cap, rfl, hz⟩ := hv
  subst hq
  have hb : (Instr.sliceBounds true n.toNat cap (some (.int .i64 (q : Int))) none none).run P w = .ok (q, n.toNat, cap) w := by
    simp [Instr.sliceBounds, Instr.sliceBound, asIntOf]
    omega
  have e : (Instr.sliceAt T (.slice a n.toNat cap) (some (.int .i64 (q : Int))) none none).run P w = .ok (sufV (.slice a n.toNat cap) q) w := by
    unfold Instr.sliceAt
    simp only [Sem.run_bind, run_underlying hu, Result.andThen_ok, Instr.slice, hb]
    simp [sizeOf, typeInfo, hin, hsz, sufV]
    rcases hz with hz | ⟨b, off, rfl⟩
    · omega
    · by_cases hc : cap = q
      · simp [hc]
      · simp [hc, Addr.add_eq]
  simp [execOp, ho, h _ _ hx, h _ _ hy, e]
theorem xsl_hi {v : Value} {n i : Int} (q : Nat) (ht : sliceT P T = some (E, 1)) (hv : Slh v n) (hr : Roomy v) (hq : (q : Int) = i := by omega) (hn : 0 < n := by omega) (h1 : i ≤ n := by omega) (ho : o.op = .slice T x none (some y) none := by exact rfl) (hx : evL L x = some v := by exact rfl) (hy : evL L y = some (.int .i64 i) := by exact rfl) :
    Runs P L w o (.value (preV v q)) w := fun ρ h => by
  obtain ⟨hu, inf, hin, hsz⟩ := slice_of ht
  obtain ⟨_, _, a, cap, rfl, hz⟩ := hv
  have hc := hr _ _ _ rfl
  subst hq
  have hb : (Instr.sliceBounds true n.toNat cap none (some (.int .i64 (q : Int))) none).run P w = .ok (0, q, cap) w := by
    simp [Instr.sliceBounds, Instr.sliceBound, asIntOf]
    omega
  have e : (Instr.sliceAt T (.slice a n.toNat cap) none (some (.int .i64 (q : Int))) none).run P w = .ok (preV (.slice a n.toNat cap) q) w := by
    unfold Instr.sliceAt
    simp only [Sem.run_bind, run_underlying hu, Result.andThen_ok, Instr.slice, hb]
    rcases hz with hz | ⟨b, off, rfl⟩
    · omega
    · simp [sizeOf, typeInfo, hin, hsz, preV, Addr.add]
  simp [execOp, ho, h _ _ hx, h _ _ hy, e]
/-- What a copy leaves. -/
def cpy (q : Nat) (r : Int) (d c : Int → Value) : Int → Value := fun k => if (q : Int) ≤ k ∧ k < q + r then d (k - q) else c k
/-- copy(v[q:], src), as much as there is room for. -/
theorem ex_copyG {v D u : Value} {n m r : Int} {q : Nat} {c d : Int → Value} (i : Nat) (ho : o.op = .call { callee := .builtin .copy, args := #[x, y], argTypes := #[T, T'] }) (ht : sliceT P T = some (E, 1)) (hx : evL L x = some D) (hy : evL L y = some u) (hS : Sat w0 w l) (hi : l[i]? = some (.own v 1 E n c)) (hD : D = sufV v q ∨ (D = v ∧ q = 0))
    (hR : Row w u 1 m d) (hq : (q : Int) < n) (hm : 0 < m) (hr : r = min (n - q) m) (h1 : ∀ k, 0 ≤ k → k < m → (d k).oneCell' = true) :
    ∃ rv w', Runs P L w o (.value rv) w' ∧ rv = .int .i64 r ∧ Sat w0 w' (l.set i (.own v 1 E n (cpy q r d c))) := by
  obtain ⟨hu, inf, hin, hsz⟩ := slice_of ht
  have hS' := hS
  rw [split_at hi] at hS'
  rw [set_at hi]
  have hsize : (P.info? E).map (·.size) = some 1 := by rw [hin]; simp [hsz]
  have hg := hS'.get
  obtain ⟨_, _, a, cap, rfl, hz⟩ := hR.slh
  rcases hz with hz | ⟨b, off, rfl⟩
  · omega
  obtain ⟨_, _, ⟨rfl, hz⟩ | ⟨g, cap', cur, rfl, hh, h2, h3, h4, h5⟩⟩ := hg
  · omega
  obtain ⟨dCap, rfl⟩ : ∃ dCap, D = .slice (some ⟨g, q, none⟩) (n.toNat - q) dCap := by
    rcases hD with rfl | ⟨rfl, rfl⟩
    · exact ⟨cap' - q, by unfold sufV; dsimp only; rw [if_neg (by omega)]; simp⟩
    · exact ⟨cap', by simp⟩
  have done : ∀ {w' : World} (r : Value), (Builtin.copy_ #[T, T'] 0 #[.slice (some ⟨g, q, none⟩) (n.toNat - q) dCap, .slice (some ⟨b, off, none⟩) m.toNat cap]).run P w = .ok r w' → Runs P L w o (.value r) w' := fun r hr ρ h => by
    have hr' : ∀ ty, (Builtin.copy_ #[T, T'] ty #[.slice (some ⟨g, q, none⟩) (n.toNat - q) dCap, .slice (some ⟨b, off, none⟩) m.toNat cap]) = Builtin.copy_ #[T, T'] 0 #[.slice (some ⟨g, q, none⟩) (n.toNat - q) dCap, .slice (some ⟨b, off, none⟩) m.toNat cap] := fun _ => rfl
    simp [execOp, ho, resolve, invoke, builtin, h _ _ hx, h _ _ hy, hr', hr]
  have hl := cellsOf_length d r.toNat
  have hr := run_copy_row (P := P) w T T' 0 E g q (n.toNat - q) dCap ⟨b, off, none⟩ m.toNat cap cur E (cellsOf d r.toNat) hu hsize hh (by rw [hl]; show r.toNat = min m.toNat (n.toNat - q); omega) (fun j t hj => by
    rw [cellsOf_get] at hj
    split at hj
    · rename_i hlt
      cases hj
      have := hR.2 j (by omega)
      rw [Addr.add_eq _ rfl]
      simpa [cad] using this
    · cases hj) (by rw [hl, h4]; omega) (fun t ht => by
    obtain ⟨j, hj⟩ := List.getElem?_of_mem ht
    rw [cellsOf_get] at hj
    split at hj
    · cases hj; exact h1 _ (by omega) (by omega)
    · cases hj)
  rw [hl] at hr
  refine ⟨_, _, done _ hr, by simp [goInt]; omega, ?_⟩
  refine hS'.turn (fun k _ hk => ?_) rfl rfl rfl (by simp [World.setRow]) ⟨by omega, by omega, .inr ⟨g, cap', _, rfl, setRow_heap w g cur _ E _ hh, h2, h3, ?_, fun k hk => ?_⟩⟩ (fun _ h => .inl h)
  · have : k ≠ g := fun e => hk (by rw [e]; rfl)
    simp [World.setRow, Array.getElem?_modify, Ne.symm this]
  · simp [hl, h4]; omega
  · have hk' : k < n.toNat := by omega
    have h6 := h5 k hk
    have ht : (cur.toList.take q).length = q := by simp [h4]; omega
    show (cur.toList.take q ++ cellsOf d r.toNat ++ cur.toList.drop (q + r.toNat)).toArray[k]? = _
    rw [List.getElem?_toArray]
    unfold cpy
    by_cases k1 : k < q
    · rw [if_neg (by omega), List.getElem?_append_left (by rw [List.length_append, ht]; omega), List.getElem?_append_left (by omega), List.getElem?_take, if_pos k1, Array.getElem?_toList]; exact h6
    · by_cases k2 : k < q + r.toNat
      · rw [if_pos (by omega), List.getElem?_append_left (by rw [List.length_append, ht, hl]; omega), List.getElem?_append_right (by omega), ht, cellsOf_get, if_pos (by omega), show (((k - q : Nat)) : Int) = (k : Int) - q by omega]
      · rw [if_neg (by omega), List.getElem?_append_right (by rw [List.length_append, ht, hl]; omega), List.length_append, ht, hl, List.getElem?_drop, Array.getElem?_toList, show q + r.toNat + (k - (q + r.toNat)) = k by omega]; exact h6
end
end Go.Proofs.Gw
