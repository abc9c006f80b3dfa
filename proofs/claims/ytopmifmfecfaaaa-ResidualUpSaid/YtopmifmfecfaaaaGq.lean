/- A queue: a slice of ints of the call's own that lies anywhere in its block; it is cut at both ends, and one more goes behind it. Over any program. -/
import Derived.Test.YtopmifmfecfaaaaGp
import Derived.Test.YtopmifmfecfaaaaFr
import Derived.ArgAppend
namespace Go.Proofs.Gw
open Go Go.RowKit
set_option linter.unusedVariables false
set_option linter.unusedSimpArgs false

def Frame.dq (E : TypeId) (v : Value) (n : Int) (f : Int → Int) : Frame where
  holds w := 0 ≤ n ∧ n ≤ 140737488355328 ∧ ((v = .slice none 0 0 ∧ n = 0) ∨ ∃ g off cap cur, v = .slice (some ⟨g, off, none⟩) n.toNat cap ∧ w.heap[g]? = some (.cells cur E (0, 0)) ∧ n.toNat ≤ cap ∧ cap ≤ maxLen ∧ off + cap ≤ cur.size ∧
    ∀ k : Nat, (k : Int) < n → cur[off + k]? = some (.int .i64 (f k)))
  has g := ∃ a l c, v = .slice (some a) l c ∧ a.block = g
  keep h hk := by
    obtain ⟨h0, h1, h | ⟨g, off, cap, cur, rfl, hg, h⟩⟩ := h
    · exact ⟨h0, h1, .inl h⟩
    · exact ⟨h0, h1, .inr ⟨g, off, cap, cur, rfl, by rw [hk g ⟨_, _, _, rfl, rfl⟩]; exact hg, h⟩⟩
  lt h hg := by
    obtain ⟨_, _, h | ⟨g, off, cap, cur, rfl, h2, _⟩⟩ := h
    · obtain ⟨rfl, _⟩ := h; obtain ⟨_, _, _, e, _⟩ := hg; cases e
    · obtain ⟨_, _, _, e, rfl⟩ := hg; cases e; exact (Array.getElem?_eq_some_iff.1 h2).1
section
variable {P : Program} {L : List (Nat × Value)} {w w0 : World} {o : Oper} {x y z : Operand} {T T' : TypeId} {l : List Ent} {E : TypeId} {v : Value} {n : Int} {f : Int → Int}
theorem Frame.dq.row (h : (Frame.dq E v n f).holds w) : Row w v 1 n (ints f) := by
  obtain ⟨h0, h1, ⟨rfl, rfl⟩ | ⟨g, off, cap, cur, rfl, hg, _, _, _, hc⟩⟩ := h
  · exact row_nil _ _ _
  · refine ⟨⟨h0, h1, _, _, rfl, .inr ⟨g, off, rfl⟩⟩, fun k hk => ?_⟩
    have hk2 : (k : Int) < n := by omega
    have := hc k hk2
    show w.cell? ⟨g, off + (k : Int).toNat, none⟩ = _
    rw [cell_of_row w g _ cur E (0, 0) hg]
    rw [show (k : Int).toNat = k by omega, this]; rfl
theorem Frame.dq.roomy (h : (Frame.dq E v n f).holds w) : Roomy v := fun a len cap e => by
  obtain ⟨_, _, ⟨rfl, _⟩ | ⟨g, off, cap', cur, rfl, _, h2, _⟩⟩ := h
  · cases e; omega
  · cases e; exact h2
theorem Sat.dqOf (h : Sat w0 w l) (i : Nat) (hi : l[i]? = some (.sem (Frame.dq E v n f))) : (Frame.dq E v n f).holds w := h.holds _ (List.mem_of_getElem? hi)
theorem Sat.dqnil (h : Sat w0 w l) (E : TypeId) (f : Int → Int) : Sat w0 w (l ++ [.sem (Frame.dq E (.slice none 0 0) 0 f)]) := by
  refine h.comp (m := [.sem (Frame.dq E (.slice none 0 0) 0 f)]) ⟨Below.refl _ _, ?_, ?_, List.pairwise_singleton _ _⟩
  · intro e he
    obtain rfl := List.mem_singleton.1 he
    exact ⟨by omega, by omega, .inl ⟨rfl, rfl⟩⟩
  · intro e he g hg
    obtain rfl := List.mem_singleton.1 he
    obtain ⟨_, _, _, e, _⟩ := hg; cases e
theorem Sat.resem {F G : Frame} (h : Sat w0 w l) (i : Nat) (hi : l[i]? = some (.sem F)) (hG : F.holds w → G.holds w) (hh : ∀ g, G.has g → F.has g) : Sat w0 w (l.set i (.sem G)) := by
  have h' := h
  rw [split_at hi] at h'
  rw [set_at hi]
  exact h'.turn (d := .sem F) (fun k _ _ => rfl) rfl rfl rfl (Nat.le_refl _) (hG (h.holds _ (List.mem_of_getElem? hi))) (fun g hg => .inl (hh g hg))
theorem Sat.dqpre (h : Sat w0 w l) (i : Nat) (q : Nat) (hq : (q : Int) ≤ n) (hi : l[i]? = some (.sem (Frame.dq E v n f)) := by exact rfl) : Sat w0 w (l.set i (.sem (Frame.dq E (preV v q) q f))) :=
  h.resem i hi (fun ⟨h0, h1, hd⟩ => ⟨by omega, by omega, by
    rcases hd with ⟨rfl, rfl⟩ | ⟨g, off, cap, cur, rfl, hg, h2, h3, h4, h5⟩
    · exact .inl ⟨by obtain rfl : q = 0 := by omega
                     rfl, by omega⟩
    · exact .inr ⟨g, off, cap, cur, by simp [preV], hg, by omega, h3, h4, fun k hk => h5 k (by omega)⟩⟩) (fun g ⟨a', lh, c, e, eb⟩ => by
    cases v with
    | slice a len cap => cases e; exact ⟨_, _, _, rfl, eb⟩
    | _ => cases e)
theorem dqpre_slh {e : Int} (h : Slh v n) (h0 : 0 ≤ e) (h1 : e ≤ n) : Slh (preV v e.toNat) e := by
  have := pre_slh (q := e.toNat) h (by omega)
  rwa [Int.toNat_of_nonneg h0] at this
theorem dqsuf_slh {m : Int} (h : Slh v n) (hr : Roomy v) (h1 : 1 ≤ n) (e : n - 1 = m) : Slh (sufV v 1) m := by
  subst e; exact (suf_of (q := 1) h hr (by omega)).slh
theorem Sat.dqn (h : Sat w0 w l) (i : Nat) {m : Int} (e : n = m) (hi : l[i]? = some (.sem (Frame.dq E v n f)) := by exact rfl) : Sat w0 w (l.set i (.sem (Frame.dq E v m f))) := by subst e; exact h.resem i hi id fun _ hg => hg
theorem Sat.dqsuf (h : Sat w0 w l) (i : Nat) (q : Nat) (hq : (q : Int) < n) (hi : l[i]? = some (.sem (Frame.dq E v n f)) := by exact rfl) : Sat w0 w (l.set i (.sem (Frame.dq E (sufV v q) (n - q) (fun k => f (k + q))))) :=
  h.resem i hi (fun ⟨h0, h1, hd⟩ => ⟨by omega, by omega, by
    rcases hd with ⟨rfl, rfl⟩ | ⟨g, off, cap, cur, rfl, hg, h2, h3, h4, h5⟩
    · omega
    · refine .inr ⟨g, off + q, cap - q, cur, ?_, hg, by omega, by omega, by omega, fun k hk => ?_⟩
      · unfold sufV; dsimp only; rw [if_neg (by omega)]; simp; try omega
      · rw [show off + q + k = off + (k + q) by omega, h5 (k + q) (by omega)]; congr 3⟩) (fun g ⟨a', lh, c, e, eb⟩ => by
    cases v with
    | slice a len cap => cases a with
      | none => simp [sufV] at e
      | some a =>
        unfold sufV at e; dsimp only at e
        split at e
        · cases e; exact ⟨_, _, _, rfl, eb⟩
        · cases e; exact ⟨_, _, _, rfl, eb⟩
    | _ => cases e)
/-- One more behind it. -/
theorem xdqa {u : Value} {b : Nat} {a : Int} {zv : Value} (i : Nat) (ht : sliceT P T = some (E, 1)) (he : elemT P E = some (zv, 1, b)) (hS : Sat w0 w l) (hu : Row w u 1 1 (ints fun _ => a)) (ho : o.op = .call { callee := .builtin .append, args := #[x, y], argTypes := #[T, T] } := by exact rfl) (hz : zv.cells.size = 1 := by exact rfl)
    (hi : l[i]? = some (.sem (Frame.dq E v n f)) := by exact rfl) (hx : evL L x = some v := by exact rfl) (hy : evL L y = some u := by exact rfl) (hb : b * (n + 1) ≤ 140737488355328 := by omega) (hnm : n + 1 ≤ 140737488355328 := by omega) :
    ∃ q w', Runs P L w o (.value q) w' ∧ Sat w0 w' (l.set i (.sem (Frame.dq E q (n + 1) (snoc f n a)))) ∧ Slh q (n + 1) := by
  obtain ⟨hut, _⟩ := slice_of ht
  obtain ⟨inf, hinf, hzz, hsz, hby⟩ := elem_of he
  have hd := hS.dqOf i hi
  have hrow := Frame.dq.row hd
  obtain ⟨h0, h1, hd⟩ := hd
  obtain ⟨_, _, ua, ucap, rfl, hua⟩ := hu.slh
  obtain ⟨ub, uoff, rfl⟩ : ∃ ub uoff, ua = some ⟨ub, uoff, none⟩ := by rcases hua with h | h; omega; exact h
  have hnews : ∀ j t, [Value.int .i64 a][j]? = some t → w.cell? ((⟨ub, uoff, none⟩ : Addr).add j) = some t := fun j t hj => by
    rcases j with _ | j
    · cases hj
      have := hu.2 0 (by omega)
      rw [Addr.add_eq _ rfl]; simpa [cad, ints] using this
    · simp at hj
  have eb : (n.toNat + 1) * b ≤ 140737488355328 := by
    have : (((n.toNat + 1) * b : Nat) : Int) = b * (n + 1) := by rw [Int.natCast_mul, Int.natCast_add, Int.toNat_of_nonneg h0, Int.mul_comm]; rfl
    omega
  have h' := hS
  rw [split_at hi] at h'
  have key : ∃ q w', (∀ ty : TypeId, (Builtin.append_ #[T, T] ty #[v, .slice (some ⟨ub, uoff, none⟩) 1 ucap]).run P w = .ok q w') ∧ (Frame.dq E q (n + 1) (snoc f n a)).holds w' ∧ (∀ k, k < w.heap.size → ¬ (Frame.dq E v n f).has k → w'.heap[k]? = w.heap[k]?) ∧ w'.tape = w.tape ∧ w'.os = w.os ∧ w'.output = w.output ∧ w.heap.size ≤ w'.heap.size ∧
      (∀ g, (Frame.dq E q (n + 1) (snoc f n a)).has g → (Frame.dq E v n f).has g ∨ w.heap.size ≤ g) := by
    have hn63 : n.toNat + 1 ≤ maxLen := by unfold maxLen; omega
    have grown : ∀ (old : Nat), old < n.toNat + 1 → ∀ (zs : List Value), zs.length = n.toNat → (∀ k : Nat, (k : Int) < n → zs[k]? = some (.int .i64 (f k))) →
        (Frame.dq E (.slice (some ⟨w.heap.size, 0, none⟩) (n.toNat + 1) (grownCap w (n.toNat + 1) old E)) (n + 1) (snoc f n a)).holds (w.drew.alloc (.cells (zs.toArray ++ [Value.int .i64 a].toArray ++ Builtin.zeroCells zv.cells (grownCap w (n.toNat + 1) old E - (n.toNat + 1))) E)) := fun old ho zs hzl hzs => by
      have hge := grownCap_ge w (n.toNat + 1) old E
      have hcm : grownCap w (n.toNat + 1) old E ≤ maxLen := grownCap_le_maxLen w (n.toNat + 1) old E hn63
      refine ⟨by omega, hnm, .inr ⟨w.heap.size, 0, _, _, by rw [show (n + 1).toNat = n.toNat + 1 by omega], heap_alloc_new w.drew _, by omega, hcm, ?_, fun k hk => ?_⟩⟩
      · simp only [Array.size_append, List.size_toArray, size_zeroCells, hz, hzl, List.length_cons, List.length_nil]; omega
      · have e1 : (zs.toArray ++ [Value.int .i64 a].toArray ++ Builtin.zeroCells zv.cells (grownCap w (n.toNat + 1) old E - (n.toNat + 1)))[0 + k]? = (zs ++ [Value.int .i64 a])[k]? := by
          rw [Nat.zero_add, Array.getElem?_append_left (by simp; omega)]; simp
        rw [e1, List.getElem?_append]
        by_cases hk2 : (k : Int) < n
        · rw [if_pos (by omega), hzs k hk2, snoc_lt hk2]
        · rw [if_neg (by omega), show k - zs.length = 0 by omega, snoc_at hk2]; rfl
    rcases hd with ⟨rfl, rfl⟩ | ⟨g, off, cap, cur, rfl, hg, h2, h3, h4, h5⟩
    · refine ⟨_, _, fun ty => run_append_nil (P := P) w T ty E inf zv hut hinf hzz ⟨ub, uoff, none⟩ 1 ucap [Value.int .i64 a] (by rw [hsz]; rfl) hnews (by omega) (by omega) (by rw [hby]; omega), ?_, fun k hk _ => heap_alloc_old w.drew _ hk, rfl, rfl, rfl, by simp, fun g ⟨_, _, _, e, eb⟩ => by cases e; exact .inr (Nat.le_of_eq eb)⟩
      have := grown 0 (by omega) [] rfl (fun k hk => by omega)
      simpa using this
    · by_cases hroom : n.toNat + 1 ≤ cap
      · have hcell : ∀ k, k < cur.size → w.cell? ⟨g, k, none⟩ = cur[k]? := fun k _ => cell_of_row w g k cur E (0, 0) hg
        refine ⟨_, _, fun ty => run_append_room_cells (P := P) w T ty E inf hut hinf g off n.toNat cap ⟨ub, uoff, none⟩ 1 ucap [Value.int .i64 a] (by rw [hsz]; rfl) hnews (fun u hu => by simp at hu; subst hu; rfl) hroom (fun j hj => by
            simp at hj; subst hj
            rw [hsz, Nat.mul_one, hcell _ (by omega)]; simp; omega) (fun j hj => by
            simp at hj; subst hj
            simp [World.frozen?, hg]), ?_, fun k hk hne => ?_, rfl, rfl, rfl, ?_, fun g' ⟨_, _, _, e, eb⟩ => .inl (by cases e; exact ⟨_, _, _, rfl, eb⟩)⟩
        · refine ⟨by omega, hnm, .inr ⟨g, off, cap, cur.setIfInBounds (off + n.toNat) (.int .i64 a), by rw [show (n + 1).toNat = n.toNat + 1 by omega], ?_, by omega, h3, by simp; omega, fun k hk => ?_⟩⟩
          · simp [World.setCells, World.setCell, Array.getElem?_modify, hg, hsz]
          · rw [Array.getElem?_setIfInBounds]
            by_cases hk2 : (k : Int) < n
            · rw [if_neg (by omega), h5 k hk2, snoc_lt hk2]
            · rw [if_pos (by omega), if_pos (by omega), snoc_at hk2]
        · exact Below.heap_setCell _ _ _ _ fun e => hne (by rw [e]; exact ⟨_, _, _, rfl, rfl⟩)
        · simp [World.setCells, World.setCell]
      · have hol : ∀ k : Nat, (k : Int) < n → (listOf f n |>.map (Value.int .i64))[k]? = some (.int .i64 (f k)) := fun k hk => by
          have hk3 : k < n.toNat := by omega
          simp [listOf, hk3]
        have hll : (listOf f n |>.map (Value.int .i64)).length = n.toNat := by simp [listOf]
        refine ⟨_, _, fun ty => run_append_grow (P := P) w T ty E inf zv hut hinf hzz ⟨g, off, none⟩ n.toNat cap (listOf f n |>.map (Value.int .i64)) (by rw [hsz, hll]; omega) (fun j t hj => ?_) ⟨ub, uoff, none⟩ 1 ucap [Value.int .i64 a] (by rw [hsz]; rfl) hnews (by omega) (by omega) (growslice_fits (by omega) (by rw [hby]; exact eb)), ?_, fun k hk _ => heap_alloc_old w.drew _ hk, rfl, rfl, rfl, by simp, fun g ⟨_, _, _, e, eb⟩ => by cases e; exact .inr (Nat.le_of_eq eb)⟩
        · have hj2 : j < n.toNat := by
            have := (List.getElem?_eq_some_iff.1 hj).1; omega
          rw [hol j (by omega)] at hj; cases hj
          rw [Addr.add_eq _ rfl, cell_of_row w g _ cur E (0, 0) hg]; exact h5 j (by omega)
        · exact grown cap (by omega) _ hll hol
  obtain ⟨q, w', hr, hq, hb1, ht1, ho1, hp1, hs1, hh⟩ := key
  refine ⟨q, w', fun ρ h => ?_, ?_, (Frame.dq.row hq).slh⟩
  · simp [execOp, ho, resolve, invoke, builtin, h _ _ hx, h _ _ hy, hr]
  · rw [set_at hi]
    exact h'.turn hb1 ht1 ho1 hp1 hs1 hq hh
end
end Go.Proofs.Gw
