/- A shift by one place; a whole use stored into an owned slice. Over any program. -/
import Derived.Test.YtopmifmfecfaaaaGv
import Derived.Test.YtopmifmfecfaaaaGu
import Derived.Test.YtopmifmfecfaaaaFx
import Derived.Test.YtopmifmfecfaaaaFn
import Derived.Test.YtopmifmfecfaaaaGq
namespace Go.Proofs.Gw
open Go Go.RowKit
set_option linter.unusedVariables false
set_option linter.unusedSimpArgs false
section
variable {P : Program} {L : List (Nat × Value)} {w w0 : World} {o : Oper} {x y : Operand} {T T' : TypeId} {l : List Ent}
theorem xshr1 {m r : Int} (ho : o.op = .binOp .shr T x y T' := by exact rfl) (hx : evL L x = some (.int .u64 m) := by exact rfl) (hy : evL L y = some (.int .u64 1) := by exact rfl) (e : r = m / 2 := by exact rfl) : Runs P L w o (.value (.int .u64 r)) w := fun ρ h => by
  subst e
  simp [execOp, ho, h _ _ hx, h _ _ hy, go_sem]
theorem cad_addx (v : Value) (k : Int) (h0 : 0 ≤ k) : (cad v k).add 1 = cad v (k + 1) ∨ ∀ a len cap, v ≠ .slice (some a) len cap := by
  cases v with
  | slice a len cap => cases a with
    | none => right; intro a len cap h; cases h
    | some a =>
      left
      have : (k + 1).toNat = k.toNat + 1 := by omega
      simp [cad, Addr.add, this, Nat.add_assoc]
  | _ => right; intro a len cap h; cases h
theorem xso2 (j : Nat) {v u0 u1 : Value} {E : TypeId} {n k : Int} {c d : Int → Value} (ht : structT P T = some 2) (hS : Sat w0 w l) (e : upd (upd c k u0) (k + 1) u1 = d) (ho : o.op = .store T x y := by exact rfl) (hi : l[j]? = some (.own v 2 E n c) := by exact rfl) (hx : evL L x = some (.pointer (some (cad v k))) := by exact rfl) (hy : evL L y = some (.agg #[u0, u1]) := by exact rfl)
    (hv : u0.oneCell' = true := by exact rfl) (hu : u1.oneCell' = true := by exact rfl) (h0 : 0 ≤ k := by omega) (h1 : k + 1 < n * 2 := by omega) : ∃ w', Runs P L w o .skip w' ∧ Sat w0 w' (l.set j (.own v 2 E n d)) := by
  subst e
  obtain ⟨_, hsz⟩ := struct_of (w := w) ht
  have hS' := hS
  rw [split_at hi] at hS'
  have hr0 := hS'.get.row
  have hadd : (cad v k).add 1 = cad v (k + 1) := by
    rcases cad_addx v k h0 with h | h
    · exact h
    · exfalso
      obtain ⟨q0, q1, a, cap, rfl, hz⟩ := hr0.slh
      rcases hz with hz | ⟨b, off, rfl⟩
      · omega
      · exact h _ _ _ rfl
  have hadd0 : (cad v k).add 0 = cad v k := by simp [Addr.add]
  have c0 := hr0.cell h0 (by omega)
  have f0 : w.frozen? (cad v k) = false := by
    rcases hS'.get.freeRow k with h | h
    · exact absurd h (by
        obtain ⟨q0, q1, a, cap, rfl, hz⟩ := hr0.slh
        rcases hz with hz | ⟨b, off, rfl⟩
        · omega
        · intro hh; cases hh)
    · exact h
  have hS1 := hS'.setOwn k h0 (by omega) u0
  have hr1 := hS1.get.row
  have c1 := hr1.cell (k := k + 1) (by omega) (by omega)
  have f1 : (w.setCell (cad v k) u0).frozen? (cad v (k + 1)) = false := by
    rcases hS1.get.freeRow (k + 1) with h | h
    · exact absurd h (by
        obtain ⟨q0, q1, a, cap, rfl, hz⟩ := hr0.slh
        rcases hz with hz | ⟨b, off, rfl⟩
        · omega
        · intro hh; cases hh)
    · exact h
  have hS2 := hS1.setOwn (k + 1) (by omega) (by omega) u1
  rw [set_at hi]
  refine ⟨_, fun ρ h => ?_, hS2⟩
  simp [execOp, ho, h _ _ hx, h _ _ hy, Instr.storeAt, Instr.sureAddr, storeVar, Value.cells, hsz, storeCells, hadd0, hadd, run_store P w _ u0 _ hv, c0, f0, run_store P _ _ u1 _ hu, c1, f1]
end
theorem upd_use (pv : Int → Value) (cnt : Int → Int) {i k : Int} (s : Value) (x : Int) (h : k = 2 * i) : upd (upd (ucells pv cnt) k s) (k + 1) (.int .i64 x) = ucells (fun q => if q = i then s else pv q) (fun q => if q = i then x else cnt q) := by
  subst h
  funext q
  unfold upd ucells
  by_cases h1 : q = 2 * i + 1
  · subst h1; rw [if_pos rfl, if_neg (by omega)]; dsimp only; rw [if_pos (by omega)]
  · rw [if_neg h1]
    by_cases h2 : q = 2 * i
    · subst h2; rw [if_pos rfl, if_pos (by omega)]; dsimp only; rw [if_pos (by omega)]
    · rw [if_neg h2]
      by_cases h3 : q % 2 = 0
      · rw [if_pos h3, if_pos h3]; dsimp only; rw [if_neg (by omega)]
      · rw [if_neg h3, if_neg h3]; dsimp only; rw [if_neg (by omega)]
/-- Two uses change places: their names do. -/
theorem ucells_swp (pv : Int → Value) (cnt s : Int → Int) (i j : Int) : ucells (fun q => if q = j then pv (s i) else (fun q => if q = i then pv (s j) else (fun k => pv (s k)) q) q) (fun q => if q = j then cnt (s i) else (fun q => if q = i then cnt (s j) else (fun k => cnt (s k)) q) q) = ucells (fun k => pv (swp s i j k)) (fun k => cnt (swp s i j k)) := by
  congr 1
  · funext q; unfold swp; dsimp only
    by_cases h1 : q = j
    · rw [if_pos h1]
      by_cases h2 : q = i
      · rw [if_pos h2]; congr 2; omega
      · rw [if_neg h2, if_pos h1]
    · rw [if_neg h1]
      by_cases h2 : q = i
      · rw [if_pos h2, if_pos h2]
      · rw [if_neg h2, if_neg h2, if_neg h1]
  · funext q; unfold swp; dsimp only
    by_cases h1 : q = j
    · rw [if_pos h1]
      by_cases h2 : q = i
      · rw [if_pos h2]; congr 2; omega
      · rw [if_neg h2, if_pos h1]
    · rw [if_neg h1]
      by_cases h2 : q = i
      · rw [if_pos h2, if_pos h2]
      · rw [if_neg h2, if_neg h2, if_neg h1]
theorem ints_swp (s : Int → Int) (i j : Int) : upd (upd (ints s) i (.int .i64 (s j))) j (.int .i64 (s i)) = ints (swp s i j) := by
  funext q; unfold upd ints swp
  by_cases h1 : q = j
  · rw [if_pos h1]
    by_cases h2 : q = i
    · rw [if_pos h2]; congr 2; omega
    · rw [if_neg h2, if_pos h1]
  · rw [if_neg h1]
    by_cases h2 : q = i
    · rw [if_pos h2, if_pos h2]
    · rw [if_neg h2, if_neg h2, if_neg h1]
theorem PermOn.inj {lo hi : Int} {t : Int → Int} (h : PermOn lo hi (fun k => k) t) {i j : Int} (e : t i = t j) : i = j := by
  obtain ⟨p, q, e1, e2, e3⟩ := h
  rw [e3, e3] at e
  have := congrArg q e
  rwa [(e1 _).2, (e1 _).2] at this
theorem Sat.pmrows {w0 w : World} {l : List Ent} (h : Sat w0 w l) (i : Nat) {E : TypeId} {n : Int} {vv : Int → Value} {ln : Int → Int} {f : Int → Int → Int} {t : Int → Int} (hp : PermOn 0 n (fun k => k) t) (hi : l[i]? = some (.sem (Frame.rows E n vv ln f)) := by exact rfl) :
    Sat w0 w (l.set i (.sem (Frame.rows E n (fun k => vv (t k)) (fun k => ln (t k)) (fun k => f (t k))))) :=
  h.resem i hi (fun ⟨h1, h2⟩ => ⟨fun k k0 k1 => by
      obtain ⟨j, j0, j1, j2⟩ := hp.fr k0 k1
      have e : t k = j := j2
      show (Ent.own (vv (t k)) 1 E (ln (t k)) (ints (f (t k)))).holds w
      rw [e]; exact h1 j j0 j1, fun a b a0 a1 b0 b1 hab g hg hg' => by
      obtain ⟨j, j0, j1, j2⟩ := hp.fr a0 a1
      obtain ⟨k, k0, k1, k2⟩ := hp.fr b0 b1
      exact h2 (t a) (t b) (by rw [j2]; exact j0) (by rw [j2]; exact j1) (by rw [k2]; exact k0) (by rw [k2]; exact k1) (fun e => hab (hp.inj e)) g hg hg'⟩)
    (fun g ⟨a, a0, a1, hg⟩ => by
      obtain ⟨j, j0, j1, j2⟩ := hp.fr a0 a1
      exact ⟨t a, by rw [j2]; exact j0, by rw [j2]; exact j1, hg⟩)
theorem gsn_one {f : Int → Value} {n : Int} {x : Value} (h : ∀ k, (f k).oneCell' = true) (hx : x.oneCell' = true) : ∀ k, (gsn f n x k).oneCell' = true := fun k => by
  unfold gsn; split
  · exact h k
  · exact hx
end Go.Proofs.Gw
