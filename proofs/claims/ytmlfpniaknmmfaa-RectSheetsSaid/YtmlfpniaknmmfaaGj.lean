/- More operations: arrays in a variable. Over any program. -/
import Derived.Test.YtmlfpniaknmmfaaGs
namespace Go.Proofs.Gw
open Go Go.RowKit
set_option linter.unusedVariables false
set_option linter.unusedSimpArgs false

def arrayT (P : Program) (T : TypeId) : Option (Nat × TypeId × Nat) :=
  match P.underlying T with
  | some (.array n E) => (P.info? E).map fun i => (n, E, i.size)
  | _ => none
theorem array_of {P : Program} {T E : TypeId} {n s : Nat} (h : arrayT P T = some (n, E, s)) : P.underlying T = some (.array n E) ∧ ∃ i, P.info? E = some i ∧ i.size = s := by
  unfold arrayT at h
  split at h
  · rename_i n' E' hu
    cases hi : P.info? E' with
    | none => simp [hi] at h
    | some i => simp [hi] at h; obtain ⟨rfl, rfl, rfl⟩ := h; exact ⟨hu, i, hi, rfl⟩
  · cases h
section
variable {P : Program} {L : List (Nat × Value)} {w w0 : World} {o : Oper} {x y z : Operand} {T T' : TypeId} {l : List Ent}
theorem ex_indexArr {E : TypeId} {n s : Nat} {i : Int} {a b : Addr} (ho : o.op = .indexAddr T x y) (ht : arrayT P T = some (n, E, s)) (hx : evL L x = some (.pointer (some a))) (hy : evL L y = some (.int .i64 i)) (h0 : 0 ≤ i) (h1 : i < n) (e : a.add (i.toNat * s) = b) :
    Runs P L w o (.value (.pointer (some b))) w := fun ρ h => by
  subst e
  obtain ⟨hu, inf, hi, rfl⟩ := array_of ht
  simp [execOp, ho, h _ _ hx, h _ _ hy, Instr.indexAt, run_underlying hu, asIntOf, sizeOf, typeInfo, hi, Instr.sureAddr, h0, h1]
end
theorem upd_bnd {f : Int → Int} {k x : Int} (h : ∀ k, -9223372036854775808 ≤ f k ∧ f k ≤ 9223372036854775807) (hx : -9223372036854775808 ≤ x ∧ x ≤ 9223372036854775807) (i : Int) : -9223372036854775808 ≤ upd f k x i ∧ upd f k x i ≤ 9223372036854775807 := by
  unfold upd; split
  · exact hx
  · exact h i
end Go.Proofs.Gw
