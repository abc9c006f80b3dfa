/- Plans in memory: cells of uses; slices of uses whose patterns are rows. Over any program. -/
import Derived.Test.YtmlfpniaknmmfaaFs
import Derived.Test.YtmlfpniaknmmfaaFt
namespace Go.Proofs.Gw
open Go Go.RowKit
set_option linter.unusedVariables false
set_option linter.unusedSimpArgs false

theorem ucells_at (pv : Int → Value) (cnt : Int → Int) {k i : Int} (h : k = 2 * i) : ∀ (j : Nat) u, [pv i, Value.int .i64 (cnt i)][j]? = some u → ucells pv cnt (k + j) = u := fun j u hu => by
  rcases j with _ | _ | j
  · cases hu; exact ucells0 pv cnt (by omega)
  · cases hu; exact ucells1 pv cnt (by omega)
  · simp at hu
theorem ucells_one {pv : Int → Value} {cnt : Int → Int} (h : ∀ i, (pv i).oneCell' = true) (k : Int) : (ucells pv cnt k).oneCell' = true := by
  unfold ucells
  split
  · exact h _
  · rfl
theorem cat_ucells (pv : Int → Value) (cnt : Int → Int) (n : Int) (r : Value) (x : Int) : cat (n * 2) (ucells pv cnt) (ucells (fun _ => r) (fun _ => x)) = ucells (gsn pv n r) (snoc cnt n x) := by
  funext k
  unfold cat ucells gsn snoc
  by_cases h : k < n * 2
  · have h2 : k / 2 < n := by omega
    simp only [if_pos h, if_pos h2]
  · have h2 : ¬ k / 2 < n := by omega
    simp only [if_neg h, if_neg h2]
    by_cases e : k % 2 = 0
    · rw [if_pos e, if_pos (by omega)]
    · rw [if_neg e, if_neg (by omega)]
theorem upd_ucells0 (pv : Int → Value) (cnt : Int → Int) {k i : Int} {x : Value} (h : k = 2 * i) : upd (ucells pv cnt) k x = ucells (upd pv i x) cnt := by
  funext j; unfold upd ucells; dsimp only
  by_cases e : j = k
  · rw [if_pos e, if_pos (by omega), if_pos (by omega)]
  · rw [if_neg e]
    by_cases e0 : j % 2 = 0
    · rw [if_pos e0, if_pos e0, if_neg (by omega)]
    · rw [if_neg e0, if_neg e0]
theorem upd_ucells1 (pv : Int → Value) (cnt : Int → Int) {k i x : Int} (h : k = 2 * i + 1) : upd (ucells pv cnt) k (.int .i64 x) = ucells pv (upd cnt i x) := by
  funext j; unfold upd ucells; dsimp only
  by_cases e : j = k
  · rw [if_pos e, if_neg (by omega), if_pos (by omega)]
  · rw [if_neg e]
    by_cases e0 : j % 2 = 0
    · rw [if_pos e0, if_pos e0]
    · rw [if_neg e0, if_neg e0, if_neg (by omega)]
/-- A slice of uses; its patterns are rows. -/
structure VAt (w : World) (v : Value) (n : Int) (pv : Int → Value) (ln : Int → Int) (pt : Int → Int → Int) (cnt : Int → Int) : Prop where
  row : Row w v 2 n (ucells pv cnt)
  p : ∀ i, 0 ≤ i → i < n → Row w (pv i) 1 (ln i) (ints (pt i))
  room : ∀ i, 0 ≤ i → i < n → Roomy (pv i)
theorem VAt.below {w w' : World} {v : Value} {n : Int} {pv : Int → Value} {ln : Int → Int} {pt : Int → Int → Int} {cnt : Int → Int} (h : VAt w v n pv ln pt cnt) (hb : Below w.heap.size w w') : VAt w' v n pv ln pt cnt :=
  ⟨h.row.below hb, fun i h0 h1 => (h.p i h0 h1).below hb, h.room⟩
/-- Equal plans. -/
def SameP (n n2 : Int) (ln ln2 : Int → Int) (pt pt2 : Int → Int → Int) (cnt cnt2 : Int → Int) : Prop := n = n2 ∧ ∀ k, 0 ≤ k → k < n → cnt k = cnt2 k ∧ ln k = ln2 k ∧ ∀ j, 0 ≤ j → j < ln k → pt k j = pt2 k j
end Go.Proofs.Gw
