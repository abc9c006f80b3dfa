/- append(nil, make([]T, n)...) of structs of two cells; uses put together. Over any program. -/
import Derived.Test.YtopmifmfecfaaaaHb
import Derived.Test.YtopmifmfecfaaaaGz
namespace Go.Proofs.Gw
open Go Go.RowKit
set_option linter.unusedVariables false
set_option linter.unusedSimpArgs false
section
variable {P : Program} {L : List (Nat × Value)} {w w0 : World} {o : Oper} {x y z : Operand} {T T' : TypeId} {l : List Ent} {E : TypeId}
theorem ex_append_make2 {n : Int} {zv z0 z1 : Value} {b : Nat} (ho : o.op = .call { callee := .builtin .append, args := #[x, y], argTypes := #[T, T'] }) (ht : sliceT P T = some (E, 2)) (hk : P.underlying T' = some (.int .i64)) (he : elemT P E = some (zv, 2, b)) (hz : zv.cells = #[z0, z1]) (hb0 : 1 ≤ b)
    (hx : evL L x = some (.slice none 0 0)) (hy : evL L y = some (.int .i64 n)) (h1 : 1 ≤ n) (hb : b * n ≤ 140737488355328) (hS : Sat w0 w l) :
    ∃ u w', Runs P L w o (.value u) w' ∧ Sat w0 w' (l ++ [.own u 2 E n (fun k => if k % 2 = 0 then z0 else z1)]) ∧ Slh u n := by
  obtain ⟨hut, _⟩ := slice_of ht
  obtain ⟨i, hi, hzz, hsz, hby⟩ := elem_of he
  have hle : n ≤ b * n := by
    have := Int.mul_le_mul_of_nonneg_right (show (1 : Int) ≤ b by omega) (show 0 ≤ n by omega)
    omega
  have hw : IntKind.i64.wrap n = n := by rw [IntKind.wrap_i64]; omega
  have h48 : ¬ (281474976710656 < n * (i.bytes : Int)) := by rw [hby, Int.mul_comm]; omega
  have hn0 : ¬ n < 0 := by omega
  have hbn : ((n.toNat * i.bytes : Nat) : Int) = b * n := by rw [Int.natCast_mul, hby, Int.toNat_of_nonneg (by omega), Int.mul_comm]
  have hcap : ¬ (281474976710656 < Builtin.nextslicecap n.toNat 0 * i.bytes) := by rw [nextslicecap_zero (by omega)]; omega
  have h63 : ¬ (9223372036854775807 < (n.toNat : Int)) := by omega
  have hnz : ¬ n.toNat = 0 := by omega
  have hnz2 : ¬ n.toNat * i.size = 0 := by rw [hsz]; omega
  have hr : ∀ ty, (Builtin.append_ #[T, T'] ty #[.slice none 0 0, .int .i64 n]).run P w = .ok (.slice (some ⟨w.heap.size, 0, none⟩) n.toNat (grownCap w n.toNat 0 E)) (w.drew.alloc (.cells (Builtin.zeroCells zv.cells n.toNat ++ Builtin.zeroCells zv.cells (grownCap w n.toNat 0 E - n.toNat)) E)) := fun ty => by
    simp [Builtin.append_, run_underlying hut, run_underlying hk, sizeOf, typeInfo, zeroValue, hi, hzz, asInt, asIntOf, hw, hn0, h48, hnz, hcap, h63, Question.forced, newRow, grownCap, Builtin.firstCells, hnz2]
    rw [if_neg (by omega), if_neg (by omega)]
  have hge := grownCap_ge w n.toNat 0 E
  have hmx := grownCap_le_maxLen w n.toNat 0 E (by unfold maxLen; omega)
  have hE : (Ent.own (.slice (some ⟨w.heap.size, 0, none⟩) n.toNat (grownCap w n.toNat 0 E)) 2 E n (fun k => if k % 2 = 0 then z0 else z1)).holds (w.drew.alloc (.cells (Builtin.zeroCells zv.cells n.toNat ++ Builtin.zeroCells zv.cells (grownCap w n.toNat 0 E - n.toNat)) E)) := by
    refine ⟨by omega, by omega, .inr ⟨_, _, _, rfl, by have := heap_alloc_new w.drew (.cells (Builtin.zeroCells zv.cells n.toNat ++ Builtin.zeroCells zv.cells (grownCap w n.toNat 0 E - n.toNat)) E); simpa using this, hge, hmx, ?_, fun k hk => ?_⟩⟩
    · simp [Builtin.zeroCells, hz]; omega
    · have hk2 : k < n.toNat * 2 := by omega
      rw [Array.getElem?_append_left (by simp [Builtin.zeroCells, hz]; omega)]
      rcases Nat.mod_two_eq_zero_or_one k with hm | hm
      · simp [Builtin.zeroCells, hz, hk2, hm]; intro hh; omega
      · simp [Builtin.zeroCells, hz, hk2, hm]; intro hh; omega
  refine ⟨_, _, fun ρ h => ?_, hS.draw.alloc _ hE (fun g hg => by simp [Ent.has, Value.ownBlock] at hg; simp [hg]), hE.row.slh⟩
  simp [execOp, ho, resolve, invoke, builtin, h _ _ hx, h _ _ hy, hr]
end
/-- Uses behind uses. -/
theorem cat_ucells2 (p q : Int → Value) (c d : Int → Int) (n : Int) : cat (n * 2) (ucells p c) (ucells q d) = ucells (cat n p q) (cat n c d) := by
  funext k
  unfold cat ucells
  by_cases h : k < n * 2
  · have h2 : k / 2 < n := by omega
    simp only [if_pos h, if_pos h2]
  · have h2 : ¬ k / 2 < n := by omega
    have h3 : (k - n * 2) / 2 = k / 2 - n := by omega
    have h4 : (k - n * 2) % 2 = k % 2 := by omega
    simp only [if_neg h, if_neg h2, h3, h4]
end Go.Proofs.Gw
