/- A whole struct of four cells stored into an owned slice; cells of boxes and of nodes of cut trees. Over any program. -/
import Derived.Test.YtmlfpniaknmmfaaGv
import Derived.Test.YtmlfpniaknmmfaaGu
import Derived.Test.YtmlfpniaknmmfaaHe
namespace Go.Proofs.Gw
open Go Go.RowKit
set_option linter.unusedVariables false
set_option linter.unusedSimpArgs false
section
variable {P : Program} {L : List (Nat × Value)} {w w0 : World} {o : Oper} {x y : Operand} {T T' : TypeId} {l : List Ent}
theorem cad_addn (v : Value) (k : Int) (j : Nat) (h0 : 0 ≤ k) : (cad v k).add j = cad v (k + j) ∨ ∀ a len cap, v ≠ .slice (some a) len cap := by
  cases v with
  | slice a len cap => cases a with
    | none => right; intro a len cap h; cases h
    | some a =>
      left
      have : (k + j).toNat = k.toNat + j := by omega
      simp [cad, Addr.add, this, Nat.add_assoc]
  | _ => right; intro a len cap h; cases h
theorem xso4 (j : Nat) {v u0 u1 u2 u3 : Value} {E : TypeId} {n k : Int} {c d : Int → Value} (ht : structT P T = some 4) (hS : Sat w0 w l) (e : upd (upd (upd (upd c k u0) (k + 1) u1) (k + 2) u2) (k + 3) u3 = d) (ho : o.op = .store T x y := by exact rfl) (hi : l[j]? = some (.own v 4 E n c) := by exact rfl) (hx : evL L x = some (.pointer (some (cad v k))) := by exact rfl) (hy : evL L y = some (.agg #[u0, u1, u2, u3]) := by exact rfl)
    (v0 : u0.oneCell' = true := by exact rfl) (v1 : u1.oneCell' = true := by exact rfl) (v2 : u2.oneCell' = true := by exact rfl) (v3 : u3.oneCell' = true := by exact rfl) (h0 : 0 ≤ k := by omega) (h1 : k + 3 < n * 4 := by omega) : ∃ w', Runs P L w o .skip w' ∧ Sat w0 w' (l.set j (.own v 4 E n d)) := by
  subst e
  obtain ⟨_, hsz⟩ := struct_of (w := w) ht
  have hS' := hS
  rw [split_at hi] at hS'
  have hr0 := hS'.get.row
  have hadd : ∀ q : Nat, (cad v k).add q = cad v (k + q) := fun q => by
    rcases cad_addn v k q h0 with h | h
    · exact h
    · exfalso
      obtain ⟨q0, q1, a, cap, rfl, hz⟩ := hr0.slh
      rcases hz with hz | ⟨b, off, rfl⟩
      · omega
      · exact h _ _ _ rfl
  have a0 : (cad v k).add 0 = cad v k := by simp [Addr.add]
  have a1 : (cad v k).add 1 = cad v (k + 1) := hadd 1
  have a2 : (cad v k).add 2 = cad v (k + 2) := hadd 2
  have a3 : (cad v k).add 3 = cad v (k + 3) := hadd 3
  have fz : ∀ {w : World} {q : Int} {c : Int → Value} {l1 l2 : List Ent}, Sat w0 w (l1 ++ .own v 4 E n c :: l2) → w.frozen? (cad v q) = false := fun {w q c l1 l2} hh => by
    rcases hh.get.freeRow q with h | h
    · exact absurd h (by
        obtain ⟨q0, q1, a, cap, rfl, hz⟩ := hr0.slh
        rcases hz with hz | ⟨b, off, rfl⟩
        · omega
        · intro hh; cases hh)
    · exact h
  have c0 := hr0.cell h0 (by omega)
  have f0 := fz (q := k) hS'
  have hS1 := hS'.setOwn k h0 (by omega) u0
  have c1 := hS1.get.row.cell (k := k + 1) (by omega) (by omega)
  have f1 := fz (q := k + 1) hS1
  have hS2 := hS1.setOwn (k + 1) (by omega) (by omega) u1
  have c2 := hS2.get.row.cell (k := k + 2) (by omega) (by omega)
  have f2 := fz (q := k + 2) hS2
  have hS3 := hS2.setOwn (k + 2) (by omega) (by omega) u2
  have c3 := hS3.get.row.cell (k := k + 3) (by omega) (by omega)
  have f3 := fz (q := k + 3) hS3
  have hS4 := hS3.setOwn (k + 3) (by omega) (by omega) u3
  rw [set_at hi]
  refine ⟨_, fun ρ h => ?_, hS4⟩
  simp [execOp, ho, h _ _ hx, h _ _ hy, Instr.storeAt, Instr.sureAddr, storeVar, Value.cells, hsz, storeCells, a0, a1, a2, a3, run_store P w _ u0 _ v0, c0, f0, run_store P _ _ u1 _ v1, c1, f1, run_store P _ _ u2 _ v2, c2, f2, run_store P _ _ u3 _ v3, c3, f3]
/-- A new slice of structs whose cells are all the same. -/
theorem xmkz {E : TypeId} {s b : Nat} {n : Int} {zv z : Value} (ht : sliceT P T = some (E, s)) (he : elemT P E = some (zv, s, b)) (hS : Sat w0 w l) (hz : ∀ k : Nat, zv.cells[k % zv.cells.size]! = z) (ho : o.op = .makeSlice T x y := by exact rfl) (hx : evL L x = some (.int .i64 n) := by exact rfl) (hy : evL L y = some (.int .i64 n) := by exact rfl) (h0 : 0 ≤ n := by omega) (hb : b * n ≤ 140737488355328 := by omega) (h1 : n ≤ 140737488355328 := by omega) :
    ∃ u w', Runs P L w o (.value u) w' ∧ Sat w0 w' (l ++ [.own u s E n (fun _ => z)]) ∧ Slh u n := by
  obtain ⟨hu, _⟩ := slice_of ht
  obtain ⟨i, hi, hzz, hsz, hby⟩ := elem_of he
  have hrun : ∀ w : World, (Instr.makeSlice T (.int .i64 n) (.int .i64 n)).run P w = .ok (.slice (some ⟨w.heap.size, 0, none⟩) n.toNat n.toNat) (w.alloc (.cells (madeCells zv.cells (n.toNat * i.size)) E)) := fun w =>
    run_make w T E i zv hu hi hzz .i64 .i64 n n h0 (Int.le_refl _) (by rw [hby]; omega) (by omega)
  refine ⟨_, w.alloc (.cells (madeCells zv.cells (n.toNat * i.size)) E), fun ρ h => ?_, hS.alloc _ (own_new (s := s) h0 h1 (by simp [madeCells, hsz]) ?_) ?_, ⟨h0, h1, _, _, rfl, .inr ⟨_, _, rfl⟩⟩⟩
  · simp [execOp, ho, h _ _ hx, h _ _ hy, hrun]
  · intro k hk
    have : k < n.toNat * i.size := by
      rw [hsz]
      have e : ((n.toNat * s : Nat) : Int) = n * s := by rw [Int.natCast_mul, Int.toNat_of_nonneg h0]
      omega
    have h2 := hz k
    simp only [madeCells]
    simp [this]
    exact h2
  · intro g hg; simp [Ent.has, Value.ownBlock] at hg; exact hg.symm
end
theorem zero4 (k : Nat) : (Value.agg #[.int .i64 0, .int .i64 0, .int .i64 0, .int .i64 0]).cells[k % (Value.agg #[.int .i64 0, .int .i64 0, .int .i64 0, .int .i64 0]).cells.size]! = .int .i64 0 := by
  have e : (Value.agg #[.int .i64 0, .int .i64 0, .int .i64 0, .int .i64 0]).cells = #[.int .i64 0, .int .i64 0, .int .i64 0, .int .i64 0] := rfl
  rw [e]
  have h : k % 4 < 4 := Nat.mod_lt _ (by decide)
  show (#[Value.int .i64 0, .int .i64 0, .int .i64 0, .int .i64 0] : Array Value)[k % 4]! = _
  have hc : k % 4 = 0 ∨ k % 4 = 1 ∨ k % 4 = 2 ∨ k % 4 = 3 := by omega
  rcases hc with hc | hc | hc | hc <;> rw [hc] <;> rfl
/-! Boxes -/
def bcells (X Y W H : Int → Int) : Int → Value := fun k => if k % 4 = 0 then .int .i64 (X (k / 4)) else if k % 4 = 1 then .int .i64 (Y (k / 4)) else if k % 4 = 2 then .int .i64 (W (k / 4)) else .int .i64 (H (k / 4))
theorem bcells0 (X Y W H : Int → Int) {k i : Int} (h : k = 4 * i) : bcells X Y W H k = .int .i64 (X i) := by
  subst h; unfold bcells; rw [if_pos (by omega)]; congr 2; omega
theorem bcells1 (X Y W H : Int → Int) {k i : Int} (h : k = 4 * i + 1) : bcells X Y W H k = .int .i64 (Y i) := by
  subst h; unfold bcells; rw [if_neg (by omega), if_pos (by omega)]; congr 2; omega
theorem bcells2 (X Y W H : Int → Int) {k i : Int} (h : k = 4 * i + 2) : bcells X Y W H k = .int .i64 (W i) := by
  subst h; unfold bcells; rw [if_neg (by omega), if_neg (by omega), if_pos (by omega)]; congr 2; omega
theorem bcells3 (X Y W H : Int → Int) {k i : Int} (h : k = 4 * i + 3) : bcells X Y W H k = .int .i64 (H i) := by
  subst h; unfold bcells; rw [if_neg (by omega), if_neg (by omega), if_neg (by omega)]; congr 2; omega
theorem bcells_at (X Y W H : Int → Int) {k i : Int} (h : k = 4 * i) : ∀ (j : Nat) u, [Value.int .i64 (X i), .int .i64 (Y i), .int .i64 (W i), .int .i64 (H i)][j]? = some u → bcells X Y W H (k + j) = u := fun j u hu => by
  rcases j with _ | _ | _ | _ | j
  · cases hu; exact bcells0 X Y W H (by omega)
  · cases hu; exact bcells1 X Y W H (by omega)
  · cases hu; exact bcells2 X Y W H (by omega)
  · cases hu; exact bcells3 X Y W H (by omega)
  · simp at hu
theorem bcells_set (X Y W H : Int → Int) {k i : Int} (a b c d : Int) (h : k = 4 * i) : upd (upd (upd (upd (bcells X Y W H) k (.int .i64 a)) (k + 1) (.int .i64 b)) (k + 2) (.int .i64 c)) (k + 3) (.int .i64 d) = bcells (upd X i a) (upd Y i b) (upd W i c) (upd H i d) := by
  subst h
  funext q
  unfold upd bcells
  dsimp only
  by_cases h3 : q = 4 * i + 3
  · subst h3
    rw [if_pos rfl, if_neg (by omega), if_neg (by omega), if_neg (by omega), if_pos (by omega)]
  · rw [if_neg h3]
    by_cases h2 : q = 4 * i + 2
    · subst h2
      rw [if_pos rfl, if_neg (by omega), if_neg (by omega), if_pos (by omega), if_pos (by omega)]
    · rw [if_neg h2]
      by_cases h1 : q = 4 * i + 1
      · subst h1
        rw [if_pos rfl, if_neg (by omega), if_pos (by omega), if_pos (by omega)]
      · rw [if_neg h1]
        by_cases h0 : q = 4 * i
        · subst h0
          rw [if_pos rfl, if_pos (by omega), if_pos (by omega)]
        · rw [if_neg h0]
          by_cases m0 : q % 4 = 0
          · rw [if_pos m0, if_pos m0, if_neg (by omega)]
          · rw [if_neg m0, if_neg m0]
            by_cases m1 : q % 4 = 1
            · rw [if_pos m1, if_pos m1, if_neg (by omega)]
            · rw [if_neg m1, if_neg m1]
              by_cases m2 : q % 4 = 2
              · rw [if_pos m2, if_pos m2, if_neg (by omega)]
              · rw [if_neg m2, if_neg m2, if_neg (by omega)]
theorem bcells_zero : ∀ k : Int, bcells (fun _ => 0) (fun _ => 0) (fun _ => 0) (fun _ => 0) k = .int .i64 0 := fun k => by
  unfold bcells
  split
  · rfl
  · split
    · rfl
    · split <;> rfl
/-! Nodes -/
noncomputable def ncells (V : Int → Prop) (A F S K : Int → Int) : Int → Value := fun k => if k % 5 = 0 then B (V (k / 5)) else if k % 5 = 1 then .int .i64 (A (k / 5)) else if k % 5 = 2 then .int .i64 (F (k / 5)) else if k % 5 = 3 then .int .i64 (S (k / 5)) else .int .i64 (K (k / 5))
section
variable (V : Int → Prop) (A F S K : Int → Int) {k i : Int}
theorem ncells0 (h : k = 5 * i) : ncells V A F S K k = B (V i) := by
  subst h; unfold ncells; rw [if_pos (by omega)]; congr 2; omega
theorem ncells1 (h : k = 5 * i + 1) : ncells V A F S K k = .int .i64 (A i) := by
  subst h; unfold ncells; rw [if_neg (by omega), if_pos (by omega)]; congr 2; omega
theorem ncells2 (h : k = 5 * i + 2) : ncells V A F S K k = .int .i64 (F i) := by
  subst h; unfold ncells; rw [if_neg (by omega), if_neg (by omega), if_pos (by omega)]; congr 2; omega
theorem ncells3 (h : k = 5 * i + 3) : ncells V A F S K k = .int .i64 (S i) := by
  subst h; unfold ncells; rw [if_neg (by omega), if_neg (by omega), if_neg (by omega), if_pos (by omega)]; congr 2; omega
theorem ncells4 (h : k = 5 * i + 4) : ncells V A F S K k = .int .i64 (K i) := by
  subst h; unfold ncells; rw [if_neg (by omega), if_neg (by omega), if_neg (by omega), if_neg (by omega)]; congr 2; omega
theorem ncells_at (h : k = 5 * i) : ∀ (j : Nat) u, [B (V i), .int .i64 (A i), .int .i64 (F i), .int .i64 (S i), .int .i64 (K i)][j]? = some u → ncells V A F S K (k + j) = u := fun j u hu => by
  rcases j with _ | _ | _ | _ | _ | j
  · cases hu; exact ncells0 V A F S K (by omega)
  · cases hu; exact ncells1 V A F S K (by omega)
  · cases hu; exact ncells2 V A F S K (by omega)
  · cases hu; exact ncells3 V A F S K (by omega)
  · cases hu; exact ncells4 V A F S K (by omega)
  · simp at hu
end
/-- A tree lies in memory. -/
structure TrAt (w : World) (v : Value) (t : Tree) : Prop where
  row : Row w v 5 t.n (ncells t.V t.A t.F t.S t.K)
  bA : ∀ i, -9223372036854775808 ≤ t.A i ∧ t.A i ≤ 9223372036854775807
  bF : ∀ i, -9223372036854775808 ≤ t.F i ∧ t.F i ≤ 9223372036854775807
  bS : ∀ i, -9223372036854775808 ≤ t.S i ∧ t.S i ≤ 9223372036854775807
  bK : ∀ i, -9223372036854775808 ≤ t.K i ∧ t.K i ≤ 9223372036854775807
theorem TrAt.below {w w' : World} {v : Value} {t : Tree} (h : TrAt w v t) (hb : Below w.heap.size w w') : TrAt w' v t := ⟨h.row.below hb, h.bA, h.bF, h.bS, h.bK⟩
end Go.Proofs.Gw
