/- Plain words: problems of cutting stock and certificates as numbers. No program in sight. -/
import Derived.Test.YtmlfpniaknmmfaaGn
namespace Go.Proofs.Gw
open Go Go.RowKit
set_option linter.unusedVariables false
set_option linter.unusedSimpArgs false

/-- A problem: the lengths, the demands, the stock and the kerf. -/
structure Prob where
  m : Int
  L : Int → Int
  d : Int
  D : Int → Int
  stock : Int
  kerf : Int
def Prob.each (p : Prob) (i : Int) : Prop := 1 ≤ p.L i ∧ p.L i ≤ p.stock ∧ (0 < i → p.L i < p.L (i - 1)) ∧ 0 ≤ p.D i ∧ p.D i ≤ 1000
structure Prob.Ok (p : Prob) : Prop where
  m1 : 1 ≤ p.m
  m2 : p.m ≤ 20
  d : p.d = p.m
  s1 : 1 ≤ p.stock
  s2 : p.stock ≤ 2000
  k1 : 0 ≤ p.kerf
  k2 : p.kerf ≤ 100
  all : ∀ i, 0 ≤ i → i < p.m → p.each i
/-- The problem's slices in the world w. -/
structure PAt (w : World) (vL vD : Value) (p : Prob) : Prop where
  L : Row w vL 1 p.m (ints p.L)
  D : Row w vD 1 p.d (ints p.D)
  iL : ∀ k, -9223372036854775808 ≤ p.L k ∧ p.L k ≤ 9223372036854775807
  iD : ∀ k, -9223372036854775808 ≤ p.D k ∧ p.D k ≤ 9223372036854775807
  is : -9223372036854775808 ≤ p.stock ∧ p.stock ≤ 9223372036854775807
  ik : -9223372036854775808 ≤ p.kerf ∧ p.kerf ≤ 9223372036854775807
theorem PAt.below {w w' : World} {vL vD : Value} {p : Prob} (h : PAt w vL vD p) (hb : Below w.heap.size w w') : PAt w' vL vD p :=
  ⟨h.L.below hb, h.D.below hb, h.iL, h.iD, h.is, h.ik⟩
/-- Numbers in a slice. -/
structure IAt (w : World) (v : Value) (n : Int) (f : Int → Int) : Prop where
  row : Row w v 1 n (ints f)
  i : ∀ k, -9223372036854775808 ≤ f k ∧ f k ≤ 9223372036854775807
theorem IAt.below {w w' : World} {v : Value} {n : Int} {f : Int → Int} (h : IAt w v n f) (hb : Below w.heap.size w w') : IAt w' v n f := ⟨h.row.below hb, h.i⟩
theorem IAt.n0 {w : World} {v : Value} {n : Int} {f : Int → Int} (h : IAt w v n f) : 0 ≤ n := h.row.slh.n0
theorem IAt.n1 {w : World} {v : Value} {n : Int} {f : Int → Int} (h : IAt w v n f) : n ≤ 140737488355328 := h.row.slh.n1
/-- Bytes in a slice. -/
def u8s (f : Int → Int) : Int → Value := fun k => .int .u8 (f k)
structure U8At (w : World) (v : Value) (n : Int) (f : Int → Int) : Prop where
  row : Row w v 1 n (u8s f)
  i : ∀ k, 0 ≤ f k ∧ f k ≤ 255
/-- A certificate's form. -/
def Formed (n : Int) (y : Int → Int) (q : Int) : Prop := 1 ≤ q ∧ q ≤ 1073741824 ∧ ∀ k, 0 ≤ k → k < n → 0 ≤ y k ∧ y k ≤ 1073741824
end Go.Proofs.Gw
