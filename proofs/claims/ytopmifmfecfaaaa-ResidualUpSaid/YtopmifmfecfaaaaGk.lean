/- A struct stored into a part of a variable; some of what a bundle holds. Over any program. -/
import Derived.Test.YtopmifmfecfaaaaGv
namespace Go.Proofs.Gw
open Go Go.RowKit
set_option linter.unusedVariables false
set_option linter.unusedSimpArgs false

section
variable {P : Program} {L : List (Nat × Value)} {w w0 : World} {o : Oper} {x y z : Operand} {T T' : TypeId} {l : List Ent} {E : TypeId}
theorem run_storesq (g q : Nat) (E : TypeId) : ∀ (vs : List Value) (k : Nat) (cur : List Value) (w : World), w.heap[g]? = some (.cells cur.toArray E (0, 0)) → q + k + vs.length ≤ cur.length → (∀ v ∈ vs, v.oneCell' = true) →
    ∃ w', (storeCells ⟨g, q, none⟩ vs k).run P w = .ok () w' ∧ w'.heap[g]? = some (.cells (cur.take (q + k) ++ vs ++ cur.drop (q + k + vs.length)).toArray E (0, 0)) ∧ (∀ j, j ≠ g → w'.heap[j]? = w.heap[j]?) ∧ w'.tape = w.tape ∧ w'.os = w.os ∧ w'.output = w.output ∧ w'.heap.size = w.heap.size
  | [], k, cur, w, hg, hk, _ => ⟨w, rfl, by simp [hg], fun _ _ => rfl, rfl, rfl, rfl, rfl⟩
  | v :: vs, k, cur, w, hg, hk, h1 => by
    simp only [List.length_cons] at hk
    have hv := h1 v (by simp)
    have hlt : q + k < cur.length := by omega
    have hc : w.cell? ⟨g, q + k, none⟩ = some cur[q + k] := by simp [World.cell?, hg, hlt]
    have hf : w.frozen? ⟨g, q + k, none⟩ = false := by simp [World.frozen?, hg]
    have hg' : (w.setCell ⟨g, q + k, none⟩ v).heap[g]? = some (.cells (cur.set (q + k) v).toArray E (0, 0)) := by simp [World.setCell, Array.getElem?_modify, hg]
    obtain ⟨w', h2, h3, h4, h5, h6, h7, h8⟩ := run_storesq g q E vs (k + 1) (cur.set (q + k) v) (w.setCell ⟨g, q + k, none⟩ v) hg' (by simp; omega) (fun u hu => h1 u (by simp [hu]))
    refine ⟨w', ?_, ?_, fun j hj => ?_, h5, h6, h7, ?_⟩
    · have e0 : (⟨g, q, none⟩ : Addr).add k = ⟨g, q + k, none⟩ := by rw [Addr.add_eq _ rfl]
      simp only [storeCells, Sem.run_bind, e0]
      rw [run_store P w _ v _ hv, hc]
      simp only [hf]
      exact h2
    · rw [h3]
      congr 3
      have e1 : (cur.set (q + k) v).take (q + (k + 1)) = cur.take (q + k) ++ [v] := by
        rw [show q + (k + 1) = q + k + 1 by omega, List.take_set, List.take_succ_eq_append_getElem hlt, List.set_append_right _ _ (by simp; omega)]
        simp [Nat.min_eq_left (Nat.le_of_lt hlt)]
      have e2 : (cur.set (q + k) v).drop (q + (k + 1) + vs.length) = cur.drop (q + k + (v :: vs).length) := by
        rw [List.drop_set_of_lt (by omega)]; congr 1; simp; omega
      rw [e1, e2]; simp
    · rw [h4 j hj]; exact Below.heap_setCell _ _ _ _ hj
    · rw [h8]; simp [World.setCell]
theorem xsp (i : Nat) {g q k : Nat} {cs ds es : List Value} (ht : structT P T = some k) (hS : Sat w0 w l) (ho : o.op = .store T x y := by exact rfl) (hi : l[i]? = some (.blk g cs) := by exact rfl) (hx : evL L x = some (.pointer (some ⟨g, q, none⟩)) := by exact rfl) (hy : evL L y = some (.agg ds.toArray) := by exact rfl)
    (hl : ds.length = k := by exact rfl) (hc : Nat.ble (q + ds.length) cs.length = true := by exact rfl) (he : cs.take q ++ ds ++ cs.drop (q + ds.length) = es := by exact rfl) (hd : ∀ v ∈ ds, v.oneCell' = true := by repeat' first | exact ones_nil | apply ones_cons rfl) : ∃ w', Runs P L w o .skip w' ∧ Sat w0 w' (l.set i (.blk g es)) := by
  obtain ⟨_, hsz⟩ := struct_of (w := w) ht
  obtain ⟨E, hg⟩ := hS.holds _ (List.mem_of_getElem? hi)
  obtain ⟨w', h3, h4, h5, h6, h7, h8, h9⟩ := run_storesq (P := P) g q E ds 0 cs w hg (by have := Nat.le_of_ble_eq_true hc; omega) hd
  refine ⟨w', fun ρ h => ?_, ?_⟩
  · simp [execOp, ho, h _ _ hx, h _ _ hy, Instr.storeAt, Instr.sureAddr, storeVar, Value.cells, hsz, hl, h3]
  · have hS' := hS
    rw [split_at hi] at hS'
    rw [set_at hi]
    refine hS'.turn (fun j _ hj => h5 j (fun e => hj (by rw [e]; rfl))) h6 h7 h8 (by omega) ⟨E, ?_⟩ (fun _ h => .inl h)
    rw [h4, Nat.add_zero, he]
theorem bun_pk {l : List Ent} (h : (Frame.bun l).holds w) (is : List Nat) (hn : is.Nodup := by decide) : (Frame.bun (pkL l is)).holds w := by
  refine ⟨fun e he => ?_, ?_⟩
  · obtain ⟨i, _, hi⟩ := pkL_mem he; exact h.1 e (List.mem_of_getElem? hi)
  · have hs := h.2
    induction is with
    | nil => exact List.Pairwise.nil
    | cons i is ih =>
      obtain ⟨hni, hn⟩ := List.nodup_cons.1 hn
      unfold pkL
      cases hi : l[i]? with
      | none => exact ih hn
      | some e =>
        refine List.pairwise_cons.2 ⟨fun e' he' => ?_, ih hn⟩
        obtain ⟨j, hj, hj'⟩ := pkL_mem he'
        have hil := (List.getElem?_eq_some_iff.1 hi)
        have hjl := (List.getElem?_eq_some_iff.1 hj')
        obtain ⟨hil1, hil2⟩ := hil
        obtain ⟨hjl1, hjl2⟩ := hjl
        have hij : i ≠ j := fun e => hni (e ▸ hj)
        rcases Nat.lt_or_gt_of_ne hij with h1 | h1
        · have := List.pairwise_iff_getElem.1 hs i j hil1 hjl1 h1
          rw [hil2, hjl2] at this; exact this
        · have := List.pairwise_iff_getElem.1 hs j i hjl1 hil1 h1
          rw [hil2, hjl2] at this; exact this.symm
theorem bun_pkh {l : List Ent} (is : List Nat) {g : Nat} (h : (Frame.bun (pkL l is)).has g) : (Frame.bun l).has g := by
  obtain ⟨e, he, hg⟩ := h
  obtain ⟨i, _, hi⟩ := pkL_mem he
  exact ⟨e, List.mem_of_getElem? hi, hg⟩
/-- A frame that holds at least these. -/
def Frame.gives (F : Frame) (l : List Ent) : Prop := (∀ w, F.holds w → (Frame.bun l).holds w) ∧ ∀ g, (Frame.bun l).has g → F.has g
theorem gives_pk {l m : List Ent} (is : List Nat) (e : pkL l is = m := by exact rfl) (hn : is.Nodup := by decide) : (Frame.bun l).gives m := by
  subst e; exact ⟨fun w h => bun_pk h is hn, fun g h => bun_pkh is h⟩
theorem Sat.given {l : List Ent} (h : Sat w0 w l) (i : Nat) {F : Frame} {m : List Ent} (hF : F.gives m) (hi : l[i]? = some (.sem F) := by exact rfl) : Sat w0 w (l.set i (.sem (Frame.bun m))) := by
  have h' := h
  rw [split_at hi] at h'
  rw [set_at hi]
  exact h'.turn (d := .sem F) (fun k _ _ => rfl) rfl rfl rfl (Nat.le_refl _) (hF.1 _ (h.holds _ (List.mem_of_getElem? hi))) (fun g hg => .inl (hF.2 g hg))
end
end Go.Proofs.Gw
