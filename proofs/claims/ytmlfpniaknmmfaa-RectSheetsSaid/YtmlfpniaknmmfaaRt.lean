/- Readers of cut trees. -/
import Derived.Test.YtmlfpniaknmmfaaRd
import Derived.Test.YtmlfpniaknmmfaaHf
namespace Go.Proofs.Gw
open Go Go.RowKit
set_option linter.unusedVariables false
section
variable {H : Type} {enc : TypeId × Value → H} {P : Program} {w : World} {held : Bool}
theorem boolB (d : Bool) : Value.bool d = B (d = true) := by
  cases d
  · exact (B_false (by simp)).symm
  · exact (B_true rfl).symm
theorem Rd.tree {t e u0 u1 u2 u3 u4 : TypeId} {f0 f1 f2 f3 f4 : Field} {b : Nat} {v : Value} (h : Rd enc P w held t [v]) (ht : P.underlying t = some (.slice e)) (he : P.underlying e = some (.struct #[f0, f1, f2, f3, f4])) (ce : P.cellsOf e = 5) (be : P.bytesOf e = b) (hb : 5 ≤ b)
    (o0 : f0.offset = 0) (o1 : f1.offset = 1) (o2 : f2.offset = 2) (o3 : f3.offset = 3) (o4 : f4.offset = 4) (t0 : f0.type = u0) (t1 : f1.type = u1) (t2 : f2.type = u2) (t3 : f3.type = u3) (t4 : f4.type = u4)
    (c0 : P.cellsOf u0 = 1) (c1 : P.cellsOf u1 = 1) (c2 : P.cellsOf u2 = 1) (c3 : P.cellsOf u3 = 1) (c4 : P.cellsOf u4 = 1)
    (hu0 : P.underlying u0 = some .bool) (hu1 : P.underlying u1 = some (.int .i64)) (hu2 : P.underlying u2 = some (.int .i64)) (hu3 : P.underlying u3 = some (.int .i64)) (hu4 : P.underlying u4 = some (.int .i64)) : ∃ t' : Tree, TrAt w v t' := by
  obtain ⟨n, c, h1, h2, h3⟩ := h.slice ht ce be (by omega) hb
  have e0 : ∀ k : Int, ∃ x : Bool × Int × Int × Int × Int, (0 ≤ k → k < n → c (5 * k) = .bool x.1 ∧ c (5 * k + 1) = .int .i64 x.2.1 ∧ c (5 * k + 2) = .int .i64 x.2.2.1 ∧ c (5 * k + 3) = .int .i64 x.2.2.2.1 ∧ c (5 * k + 4) = .int .i64 x.2.2.2.2) ∧
      (-9223372036854775808 ≤ x.2.1 ∧ x.2.1 ≤ 9223372036854775807) ∧ (-9223372036854775808 ≤ x.2.2.1 ∧ x.2.2.1 ≤ 9223372036854775807) ∧ (-9223372036854775808 ≤ x.2.2.2.1 ∧ x.2.2.2.1 ≤ 9223372036854775807) ∧ (-9223372036854775808 ≤ x.2.2.2.2 ∧ x.2.2.2.2 ≤ 9223372036854775807) := fun k => by
    by_cases hk : 0 ≤ k ∧ k < n
    · have h4 := h3 k hk.1 hk.2
      have e : ((List.range 5).map fun j : Nat => c (k * (5 : Nat) + j)) = [c (5 * k), c (5 * k + 1), c (5 * k + 2), c (5 * k + 3), c (5 * k + 4)] := by
        simp [List.range_succ]
        exact ⟨by congr 1; omega, by congr 1; omega, by congr 1; omega, by congr 1; omega, by congr 1; omega⟩
      rw [e] at h4
      obtain ⟨y0, e0⟩ := (h4.field he 0 rfl t0 c0 (ds := [c (5 * k)]) (by show List.take 1 (List.drop f0.offset _) = _; rw [o0]; rfl)).boolv hu0
      obtain ⟨y1, e1, w1⟩ := (h4.field he 1 rfl t1 c1 (ds := [c (5 * k + 1)]) (by show List.take 1 (List.drop f1.offset _) = _; rw [o1]; rfl)).intv hu1
      obtain ⟨y2, e2, w2⟩ := (h4.field he 2 rfl t2 c2 (ds := [c (5 * k + 2)]) (by show List.take 1 (List.drop f2.offset _) = _; rw [o2]; rfl)).intv hu2
      obtain ⟨y3, e3, w3⟩ := (h4.field he 3 rfl t3 c3 (ds := [c (5 * k + 3)]) (by show List.take 1 (List.drop f3.offset _) = _; rw [o3]; rfl)).intv hu3
      obtain ⟨y4, e4, w4⟩ := (h4.field he 4 rfl t4 c4 (ds := [c (5 * k + 4)]) (by show List.take 1 (List.drop f4.offset _) = _; rw [o4]; rfl)).intv hu4
      exact ⟨(y0, y1, y2, y3, y4), fun _ _ => ⟨e0, e1, e2, e3, e4⟩, wf_i64 w1, wf_i64 w2, wf_i64 w3, wf_i64 w4⟩
    · exact ⟨(false, 0, 0, 0, 0), fun a0 a1 => absurd ⟨a0, a1⟩ hk, by dsimp only; omega⟩
  obtain ⟨f, hf⟩ := Classical.axiomOfChoice e0
  refine ⟨⟨n, fun k => (f k).1 = true, fun k => (f k).2.1, fun k => (f k).2.2.1, fun k => (f k).2.2.2.1, fun k => (f k).2.2.2.2⟩, h1.congr fun k k0 k1 => ?_, fun i => (hf i).2.1, fun i => (hf i).2.2.1, fun i => (hf i).2.2.2.1, fun i => (hf i).2.2.2.2⟩
  have k1' : k < n * 5 := k1
  obtain ⟨g0, g1, g2, g3, g4⟩ := (hf (k / 5)).1 (by omega) (by omega)
  have hc : k = 5 * (k / 5) ∨ k = 5 * (k / 5) + 1 ∨ k = 5 * (k / 5) + 2 ∨ k = 5 * (k / 5) + 3 ∨ k = 5 * (k / 5) + 4 := by omega
  rcases hc with hc | hc | hc | hc | hc
  · rw [ncells0 _ _ _ _ _ hc, ← boolB, ← g0, ← hc]
  · rw [ncells1 _ _ _ _ _ hc, ← g1, ← hc]
  · rw [ncells2 _ _ _ _ _ hc, ← g2, ← hc]
  · rw [ncells3 _ _ _ _ _ hc, ← g3, ← hc]
  · rw [ncells4 _ _ _ _ _ hc, ← g4, ← hc]
/-- Cut trees lie in memory. -/
structure TrsAt (w : World) (v : Value) (n : Int) (vv : Int → Value) (tr : Int → Tree) : Prop where
  row : Row w v 1 n vv
  p : ∀ i, 0 ≤ i → i < n → TrAt w (vv i) (tr i)
theorem TrsAt.below {w w' : World} {v : Value} {n : Int} {vv : Int → Value} {tr : Int → Tree} (h : TrsAt w v n vv tr) (hb : Below w.heap.size w w') : TrsAt w' v n vv tr := ⟨h.row.below hb, fun i i0 i1 => (h.p i i0 i1).below hb⟩
theorem Rd.trees {s t e u0 u1 u2 u3 u4 : TypeId} {f0 f1 f2 f3 f4 : Field} {b b' : Nat} {v : Value} (h : Rd enc P w held s [v]) (hs : P.underlying s = some (.slice t)) (cs : P.cellsOf t = 1) (bs : P.bytesOf t = b') (hb' : 1 ≤ b') (ht : P.underlying t = some (.slice e)) (he : P.underlying e = some (.struct #[f0, f1, f2, f3, f4])) (ce : P.cellsOf e = 5) (be : P.bytesOf e = b) (hb : 5 ≤ b)
    (o0 : f0.offset = 0) (o1 : f1.offset = 1) (o2 : f2.offset = 2) (o3 : f3.offset = 3) (o4 : f4.offset = 4) (t0 : f0.type = u0) (t1 : f1.type = u1) (t2 : f2.type = u2) (t3 : f3.type = u3) (t4 : f4.type = u4)
    (c0 : P.cellsOf u0 = 1) (c1 : P.cellsOf u1 = 1) (c2 : P.cellsOf u2 = 1) (c3 : P.cellsOf u3 = 1) (c4 : P.cellsOf u4 = 1)
    (hu0 : P.underlying u0 = some .bool) (hu1 : P.underlying u1 = some (.int .i64)) (hu2 : P.underlying u2 = some (.int .i64)) (hu3 : P.underlying u3 = some (.int .i64)) (hu4 : P.underlying u4 = some (.int .i64)) : ∃ n vv tr, TrsAt w v n vv tr := by
  obtain ⟨n, c, h1, h2, h3⟩ := h.slice hs cs bs (by omega) hb'
  have e0 : ∀ k : Int, ∃ x : Tree, 0 ≤ k → k < n → TrAt w (c k) x := fun k => by
    by_cases hk : 0 ≤ k ∧ k < n
    · have h4 := h3 k hk.1 hk.2
      simp only [List.range_one, List.map_cons, List.map_nil] at h4
      rw [show k * ((1 : Nat) : Int) + ((0 : Nat) : Int) = k by omega] at h4
      obtain ⟨t', ht'⟩ := h4.tree ht he ce be hb o0 o1 o2 o3 o4 t0 t1 t2 t3 t4 c0 c1 c2 c3 c4 hu0 hu1 hu2 hu3 hu4
      exact ⟨t', fun _ _ => ht'⟩
    · exact ⟨⟨0, fun _ => False, fun _ => 0, fun _ => 0, fun _ => 0, fun _ => 0⟩, fun a0 a1 => absurd ⟨a0, a1⟩ hk⟩
  obtain ⟨f, hf⟩ := Classical.axiomOfChoice e0
  exact ⟨n, c, f, h1, hf⟩
end
end Go.Proofs.Gw
