/-
  No cell of these rows narrows 'for every input' (looked for: loops, veiled, ifaces, maps, wideKeys, modest, calm, conditions, laid).
  DERIVED. THE GIVEN ROWS OF THIS SEAT. 7 by the template 'for every input the law returns true; each argument reads behind the call as it read before'; 0 by the template 'total and deterministic' (their statements: YtmlfpniaknmmfaaTotals.lean).
  GIVEN WITH THE SEED: the statements are not yours to turn. If you find one false, say at which input.
  Laid BY PROGRAM, IN A SANDBOX (cutbox-rows.mjs): the forced cells as the released guide's own fill.sh prints them over the translation 397e65b353bb9408… (all of the seat's roots in one cut). By AI agents, Wed Nov 11 2026. No macro, syntax, notation, axiom, sorry.
-/
import Derived.Test.YtmlfpniaknmmfaaChecked
import GoSem.Claim
import GoSem.ClaimJoined
import GoSem.ClaimMapViews
import Derived.JoinedTies
import Derived.KernelRfl
namespace Go.Proofs.Ytmlfpniaknmmfaa
/- THE CELL 'sum', in the pinned program and in every row, IS THE sha256 OF THE DUMP (.gsa) THAT YtmlfpniaknmmfaaProg.lean LOADS. Nothing in Lean hashes anything: it is a label: what it is worth is what the hold of that sum in a sandbox is worth. -/
noncomputable def Try.pinned : Pinned := { name := "ytmlfpniaknmmfaa", sum := "397e65b353bb94087d1034b6ea66bcd396cd2e9c06a6cedb0f5596c81547b8a7", checked := Try.checked }
namespace Rows
def none {H : Type} : Left H := { results := [], args := [] }

/-- 'fretsawlaw39.RectValue': WHATEVER THE INPUT: true; the input reads as it did. -/
def rectValueSpec : ChangeSpec := { name := "rectValue", fn := fun _ => fun
  | [d1, d2] => { results := [.lit (.bool true)], args := [d1, d2] }
  | _ => none }
def rectValueRow : OpenClaim := { program := "ytmlfpniaknmmfaa", sum := "397e65b353bb94087d1034b6ea66bcd396cd2e9c06a6cedb0f5596c81547b8a7", func := "fretsaw/fretsawlaw39.RectValue", spec := "rectValue", unfollowed := true, recurses := true, apart := false }
def RectValueSaid : Prop := rectValueRow.holds Try.pinned (OpenSpec.ofChange rectValueSpec)

/-- ITS FALSE NEIGHBOUR: 'it returns false'. Refute it at one input. -/
def rectValueWrong : ChangeSpec := { name := "rectValue", fn := fun _ => fun
  | [d1, d2] => { results := [.lit (.bool false)], args := [d1, d2] }
  | _ => none }
def RectValueWrongFalsely : Prop := rectValueRow.holds Try.pinned (OpenSpec.ofChange rectValueWrong)

/-- 'fretsawlaw39.RectBest': WHATEVER THE INPUT: true; the input reads as it did. -/
def rectBestSpec : ChangeSpec := { name := "rectBest", fn := fun _ => fun
  | [d] => { results := [.lit (.bool true)], args := [d] }
  | _ => none }
def rectBestRow : OpenClaim := { program := "ytmlfpniaknmmfaa", sum := "397e65b353bb94087d1034b6ea66bcd396cd2e9c06a6cedb0f5596c81547b8a7", func := "fretsaw/fretsawlaw39.RectBest", spec := "rectBest", unfollowed := true, recurses := true, apart := false }
def RectBestSaid : Prop := rectBestRow.holds Try.pinned (OpenSpec.ofChange rectBestSpec)

/-- ITS FALSE NEIGHBOUR: 'it returns false'. Refute it at one input. -/
def rectBestWrong : ChangeSpec := { name := "rectBest", fn := fun _ => fun
  | [d] => { results := [.lit (.bool false)], args := [d] }
  | _ => none }
def RectBestWrongFalsely : Prop := rectBestRow.holds Try.pinned (OpenSpec.ofChange rectBestWrong)

/-- 'fretsawlaw39.RectSheets': WHATEVER THE INPUT: true; the input reads as it did. -/
def rectSheetsSpec : ChangeSpec := { name := "rectSheets", fn := fun _ => fun
  | [d1, d2, d3] => { results := [.lit (.bool true)], args := [d1, d2, d3] }
  | _ => none }
def rectSheetsRow : OpenClaim := { program := "ytmlfpniaknmmfaa", sum := "397e65b353bb94087d1034b6ea66bcd396cd2e9c06a6cedb0f5596c81547b8a7", func := "fretsaw/fretsawlaw39.RectSheets", spec := "rectSheets", unfollowed := true, recurses := true, apart := false }
def RectSheetsSaid : Prop := rectSheetsRow.holds Try.pinned (OpenSpec.ofChange rectSheetsSpec)

/-- ITS FALSE NEIGHBOUR: 'it returns false'. Refute it at one input. -/
def rectSheetsWrong : ChangeSpec := { name := "rectSheets", fn := fun _ => fun
  | [d1, d2, d3] => { results := [.lit (.bool false)], args := [d1, d2, d3] }
  | _ => none }
def RectSheetsWrongFalsely : Prop := rectSheetsRow.holds Try.pinned (OpenSpec.ofChange rectSheetsWrong)

/-- 'fretsawlaw39.RectLeast': WHATEVER THE INPUT: true; the input reads as it did. -/
def rectLeastSpec : ChangeSpec := { name := "rectLeast", fn := fun _ => fun
  | [d] => { results := [.lit (.bool true)], args := [d] }
  | _ => none }
def rectLeastRow : OpenClaim := { program := "ytmlfpniaknmmfaa", sum := "397e65b353bb94087d1034b6ea66bcd396cd2e9c06a6cedb0f5596c81547b8a7", func := "fretsaw/fretsawlaw39.RectLeast", spec := "rectLeast", unfollowed := true, recurses := true, apart := false }
def RectLeastSaid : Prop := rectLeastRow.holds Try.pinned (OpenSpec.ofChange rectLeastSpec)

/-- ITS FALSE NEIGHBOUR: 'it returns false'. Refute it at one input. -/
def rectLeastWrong : ChangeSpec := { name := "rectLeast", fn := fun _ => fun
  | [d] => { results := [.lit (.bool false)], args := [d] }
  | _ => none }
def RectLeastWrongFalsely : Prop := rectLeastRow.holds Try.pinned (OpenSpec.ofChange rectLeastWrong)

/-- 'fretsawlaw39.RectMore': WHATEVER THE INPUT: true; the input reads as it did. -/
def rectMoreSpec : ChangeSpec := { name := "rectMore", fn := fun _ => fun
  | [d1, d2, d3] => { results := [.lit (.bool true)], args := [d1, d2, d3] }
  | _ => none }
def rectMoreRow : OpenClaim := { program := "ytmlfpniaknmmfaa", sum := "397e65b353bb94087d1034b6ea66bcd396cd2e9c06a6cedb0f5596c81547b8a7", func := "fretsaw/fretsawlaw39.RectMore", spec := "rectMore", unfollowed := true, recurses := true, apart := false }
def RectMoreSaid : Prop := rectMoreRow.holds Try.pinned (OpenSpec.ofChange rectMoreSpec)

/-- ITS FALSE NEIGHBOUR: 'it returns false'. Refute it at one input. -/
def rectMoreWrong : ChangeSpec := { name := "rectMore", fn := fun _ => fun
  | [d1, d2, d3] => { results := [.lit (.bool false)], args := [d1, d2, d3] }
  | _ => none }
def RectMoreWrongFalsely : Prop := rectMoreRow.holds Try.pinned (OpenSpec.ofChange rectMoreWrong)

/-- 'fretsawlaw39.RectApply': WHATEVER THE INPUT: true; the input reads as it did. -/
def rectApplySpec : ChangeSpec := { name := "rectApply", fn := fun _ => fun
  | [d1, d2, d3] => { results := [.lit (.bool true)], args := [d1, d2, d3] }
  | _ => none }
def rectApplyRow : OpenClaim := { program := "ytmlfpniaknmmfaa", sum := "397e65b353bb94087d1034b6ea66bcd396cd2e9c06a6cedb0f5596c81547b8a7", func := "fretsaw/fretsawlaw39.RectApply", spec := "rectApply", unfollowed := true, recurses := true, apart := false }
def RectApplySaid : Prop := rectApplyRow.holds Try.pinned (OpenSpec.ofChange rectApplySpec)

/-- ITS FALSE NEIGHBOUR: 'it returns false'. Refute it at one input. -/
def rectApplyWrong : ChangeSpec := { name := "rectApply", fn := fun _ => fun
  | [d1, d2, d3] => { results := [.lit (.bool false)], args := [d1, d2, d3] }
  | _ => none }
def RectApplyWrongFalsely : Prop := rectApplyRow.holds Try.pinned (OpenSpec.ofChange rectApplyWrong)

/-- 'fretsawlaw39.RectDual': WHATEVER THE INPUT: true; the input reads as it did. -/
def rectDualSpec : ChangeSpec := { name := "rectDual", fn := fun _ => fun
  | [d1, d2, d3] => { results := [.lit (.bool true)], args := [d1, d2, d3] }
  | _ => none }
def rectDualRow : OpenClaim := { program := "ytmlfpniaknmmfaa", sum := "397e65b353bb94087d1034b6ea66bcd396cd2e9c06a6cedb0f5596c81547b8a7", func := "fretsaw/fretsawlaw39.RectDual", spec := "rectDual", unfollowed := true, recurses := true, apart := false }
def RectDualSaid : Prop := rectDualRow.holds Try.pinned (OpenSpec.ofChange rectDualSpec)

/-- ITS FALSE NEIGHBOUR: 'it returns false'. Refute it at one input. -/
def rectDualWrong : ChangeSpec := { name := "rectDual", fn := fun _ => fun
  | [d1, d2, d3] => { results := [.lit (.bool false)], args := [d1, d2, d3] }
  | _ => none }
def RectDualWrongFalsely : Prop := rectDualRow.holds Try.pinned (OpenSpec.ofChange rectDualWrong)

/- THE SECOND FORM. 'bulk': how many values and letters a reading holds, each counted each time it is reached (what is shared counts as often as it is met; a slice's spare places count too). A statement '..UptoSaid' is the law's where the arguments, and the package variables that the reading takes, are together of bulk at most 1048576: NARROWER than '..Said'. Prove '..Said' where nothing that the law and all that it calls make is longer than what came in: it says more and counts as full. Else prove '..UptoSaid'. A law counts once. -/
mutual
def uptoBulk {H : Type} : DataW H → Nat
  | .lit (.string bytes) => bytes.length + 1
  | .lit _ => 1
  | .nil => 1
  | .ptr d => uptoBulk d + 1
  | .slice elems spare => uptoBulkAll elems + uptoBulkAll spare + 1
  | .agg parts => uptoBulkAll parts + 1
  | .iface _ d => uptoBulk d + 1
  | .map entries => uptoBulkEntries entries + 1
  | .held _ => 1
def uptoBulkAll {H : Type} : List (DataW H) → Nat
  | [] => 0
  | d :: r => uptoBulk d + uptoBulkAll r
def uptoBulkEntries {H : Type} : List (Lit × DataW H) → Nat
  | [] => 0
  | x :: r => uptoBulkEntry x + uptoBulkEntries r
def uptoBulkEntry {H : Type} : Lit × DataW H → Nat
  | (.string bytes, d) => bytes.length + uptoBulk d + 1
  | (_, d) => uptoBulk d + 1
 end
def uptoSmall : (H : Type) → List (DataW H) → Bool := fun _ ds => decide (uptoBulkAll ds ≤ 1048576)
def OpenSpec.upto (s : _root_.Go.ChangeSpec) : _root_.Go.OpenSpec := { _root_.Go.OpenSpec.ofChange s with cond := some uptoSmall }

/-- 'fretsawlaw39.RectValue', WHERE WHAT IT READS IS OF BULK AT MOST 1048576: true; the input reads as it did. -/
def rectValueUptoRow : OpenClaim := { program := "ytmlfpniaknmmfaa", sum := "397e65b353bb94087d1034b6ea66bcd396cd2e9c06a6cedb0f5596c81547b8a7", func := "fretsaw/fretsawlaw39.RectValue", spec := "rectValue", unfollowed := true, recurses := true, apart := false, narrowed := true }
def RectValueUptoSaid : Prop := rectValueUptoRow.holds Try.pinned (OpenSpec.upto rectValueSpec)

/-- 'fretsawlaw39.RectBest', WHERE WHAT IT READS IS OF BULK AT MOST 1048576: true; the input reads as it did. -/
def rectBestUptoRow : OpenClaim := { program := "ytmlfpniaknmmfaa", sum := "397e65b353bb94087d1034b6ea66bcd396cd2e9c06a6cedb0f5596c81547b8a7", func := "fretsaw/fretsawlaw39.RectBest", spec := "rectBest", unfollowed := true, recurses := true, apart := false, narrowed := true }
def RectBestUptoSaid : Prop := rectBestUptoRow.holds Try.pinned (OpenSpec.upto rectBestSpec)

/-- 'fretsawlaw39.RectSheets', WHERE WHAT IT READS IS OF BULK AT MOST 1048576: true; the input reads as it did. -/
def rectSheetsUptoRow : OpenClaim := { program := "ytmlfpniaknmmfaa", sum := "397e65b353bb94087d1034b6ea66bcd396cd2e9c06a6cedb0f5596c81547b8a7", func := "fretsaw/fretsawlaw39.RectSheets", spec := "rectSheets", unfollowed := true, recurses := true, apart := false, narrowed := true }
def RectSheetsUptoSaid : Prop := rectSheetsUptoRow.holds Try.pinned (OpenSpec.upto rectSheetsSpec)

/-- 'fretsawlaw39.RectLeast', WHERE WHAT IT READS IS OF BULK AT MOST 1048576: true; the input reads as it did. -/
def rectLeastUptoRow : OpenClaim := { program := "ytmlfpniaknmmfaa", sum := "397e65b353bb94087d1034b6ea66bcd396cd2e9c06a6cedb0f5596c81547b8a7", func := "fretsaw/fretsawlaw39.RectLeast", spec := "rectLeast", unfollowed := true, recurses := true, apart := false, narrowed := true }
def RectLeastUptoSaid : Prop := rectLeastUptoRow.holds Try.pinned (OpenSpec.upto rectLeastSpec)

/-- 'fretsawlaw39.RectMore', WHERE WHAT IT READS IS OF BULK AT MOST 1048576: true; the input reads as it did. -/
def rectMoreUptoRow : OpenClaim := { program := "ytmlfpniaknmmfaa", sum := "397e65b353bb94087d1034b6ea66bcd396cd2e9c06a6cedb0f5596c81547b8a7", func := "fretsaw/fretsawlaw39.RectMore", spec := "rectMore", unfollowed := true, recurses := true, apart := false, narrowed := true }
def RectMoreUptoSaid : Prop := rectMoreUptoRow.holds Try.pinned (OpenSpec.upto rectMoreSpec)

/-- 'fretsawlaw39.RectApply', WHERE WHAT IT READS IS OF BULK AT MOST 1048576: true; the input reads as it did. -/
def rectApplyUptoRow : OpenClaim := { program := "ytmlfpniaknmmfaa", sum := "397e65b353bb94087d1034b6ea66bcd396cd2e9c06a6cedb0f5596c81547b8a7", func := "fretsaw/fretsawlaw39.RectApply", spec := "rectApply", unfollowed := true, recurses := true, apart := false, narrowed := true }
def RectApplyUptoSaid : Prop := rectApplyUptoRow.holds Try.pinned (OpenSpec.upto rectApplySpec)

/-- 'fretsawlaw39.RectDual', WHERE WHAT IT READS IS OF BULK AT MOST 1048576: true; the input reads as it did. -/
def rectDualUptoRow : OpenClaim := { program := "ytmlfpniaknmmfaa", sum := "397e65b353bb94087d1034b6ea66bcd396cd2e9c06a6cedb0f5596c81547b8a7", func := "fretsaw/fretsawlaw39.RectDual", spec := "rectDual", unfollowed := true, recurses := true, apart := false, narrowed := true }
def RectDualUptoSaid : Prop := rectDualUptoRow.holds Try.pinned (OpenSpec.upto rectDualSpec)

end Rows
end Go.Proofs.Ytmlfpniaknmmfaa
