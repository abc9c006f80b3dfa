/-
  No cell of these rows narrows 'for every input' (looked for: loops, veiled, ifaces, maps, wideKeys, modest, calm, conditions, laid).
  DERIVED. THE GIVEN ROWS OF THIS SEAT. 4 by the template 'for every input the law returns true; each argument reads behind the call as it read before'; 0 by the template 'total and deterministic' (their statements: YtopmifmfecfaaaaTotals.lean).
  GIVEN WITH THE SEED: the statements are not yours to turn. If you find one false, say at which input.
  Laid BY PROGRAM, IN A SANDBOX (cutbox-rows.mjs): the forced cells as the released guide's own fill.sh prints them over the translation 91acadef21d20082… (all of the seat's roots in one cut). By AI agents, Wed Nov 11 2026. No macro, syntax, notation, axiom, sorry.
-/
import Derived.Test.YtopmifmfecfaaaaChecked
import GoSem.Claim
import GoSem.ClaimJoined
import GoSem.ClaimMapViews
import Derived.JoinedTies
import Derived.KernelRfl
namespace Go.Proofs.Ytopmifmfecfaaaa
/- THE CELL 'sum', in the pinned program and in every row, IS THE sha256 OF THE DUMP (.gsa) THAT YtopmifmfecfaaaaProg.lean LOADS. Nothing in Lean hashes anything: it is a label: what it is worth is what the hold of that sum in a sandbox is worth. -/
noncomputable def Try.pinned : Pinned := { name := "ytopmifmfecfaaaa", sum := "91acadef21d2008210bf56bb8b983c97d22779df3ded01949188ba54600dd1fc", checked := Try.checked }
namespace Rows
def none {H : Type} : Left H := { results := [], args := [] }

/-- 'fretsawlaw30.MasterWhole': WHATEVER THE INPUT: true; the input reads as it did. -/
def masterWholeSpec : ChangeSpec := { name := "masterWhole", fn := fun _ => fun
  | [d1, d2] => { results := [.lit (.bool true)], args := [d1, d2] }
  | _ => none }
def masterWholeRow : OpenClaim := { program := "ytopmifmfecfaaaa", sum := "91acadef21d2008210bf56bb8b983c97d22779df3ded01949188ba54600dd1fc", func := "fretsaw/fretsawlaw30.MasterWhole", spec := "masterWhole", unfollowed := true, recurses := true, apart := false }
def MasterWholeSaid : Prop := masterWholeRow.holds Try.pinned (OpenSpec.ofChange masterWholeSpec)

/-- ITS FALSE NEIGHBOUR: 'it returns false'. Refute it at one input. -/
def masterWholeWrong : ChangeSpec := { name := "masterWhole", fn := fun _ => fun
  | [d1, d2] => { results := [.lit (.bool false)], args := [d1, d2] }
  | _ => none }
def MasterWholeWrongFalsely : Prop := masterWholeRow.holds Try.pinned (OpenSpec.ofChange masterWholeWrong)

/-- 'fretsawlaw34.ResidualHalf': WHATEVER THE INPUT: true; the input reads as it did. -/
def residualHalfSpec : ChangeSpec := { name := "residualHalf", fn := fun _ => fun
  | [d] => { results := [.lit (.bool true)], args := [d] }
  | _ => none }
def residualHalfRow : OpenClaim := { program := "ytopmifmfecfaaaa", sum := "91acadef21d2008210bf56bb8b983c97d22779df3ded01949188ba54600dd1fc", func := "fretsaw/fretsawlaw34.ResidualHalf", spec := "residualHalf", unfollowed := true, recurses := true, apart := false }
def ResidualHalfSaid : Prop := residualHalfRow.holds Try.pinned (OpenSpec.ofChange residualHalfSpec)

/-- ITS FALSE NEIGHBOUR: 'it returns false'. Refute it at one input. -/
def residualHalfWrong : ChangeSpec := { name := "residualHalf", fn := fun _ => fun
  | [d] => { results := [.lit (.bool false)], args := [d] }
  | _ => none }
def ResidualHalfWrongFalsely : Prop := residualHalfRow.holds Try.pinned (OpenSpec.ofChange residualHalfWrong)

/-- 'fretsawlaw34.ResidualRound': WHATEVER THE INPUT: true; the input reads as it did. -/
def residualRoundSpec : ChangeSpec := { name := "residualRound", fn := fun _ => fun
  | [d1, d2] => { results := [.lit (.bool true)], args := [d1, d2] }
  | _ => none }
def residualRoundRow : OpenClaim := { program := "ytopmifmfecfaaaa", sum := "91acadef21d2008210bf56bb8b983c97d22779df3ded01949188ba54600dd1fc", func := "fretsaw/fretsawlaw34.ResidualRound", spec := "residualRound", unfollowed := true, recurses := true, apart := false }
def ResidualRoundSaid : Prop := residualRoundRow.holds Try.pinned (OpenSpec.ofChange residualRoundSpec)

/-- ITS FALSE NEIGHBOUR: 'it returns false'. Refute it at one input. -/
def residualRoundWrong : ChangeSpec := { name := "residualRound", fn := fun _ => fun
  | [d1, d2] => { results := [.lit (.bool false)], args := [d1, d2] }
  | _ => none }
def ResidualRoundWrongFalsely : Prop := residualRoundRow.holds Try.pinned (OpenSpec.ofChange residualRoundWrong)

/-- 'fretsawlaw34.ResidualUp': WHATEVER THE INPUT: true; the input reads as it did. -/
def residualUpSpec : ChangeSpec := { name := "residualUp", fn := fun _ => fun
  | [d1, d2] => { results := [.lit (.bool true)], args := [d1, d2] }
  | _ => none }
def residualUpRow : OpenClaim := { program := "ytopmifmfecfaaaa", sum := "91acadef21d2008210bf56bb8b983c97d22779df3ded01949188ba54600dd1fc", func := "fretsaw/fretsawlaw34.ResidualUp", spec := "residualUp", unfollowed := true, recurses := true, apart := false }
def ResidualUpSaid : Prop := residualUpRow.holds Try.pinned (OpenSpec.ofChange residualUpSpec)

/-- ITS FALSE NEIGHBOUR: 'it returns false'. Refute it at one input. -/
def residualUpWrong : ChangeSpec := { name := "residualUp", fn := fun _ => fun
  | [d1, d2] => { results := [.lit (.bool false)], args := [d1, d2] }
  | _ => none }
def ResidualUpWrongFalsely : Prop := residualUpRow.holds Try.pinned (OpenSpec.ofChange residualUpWrong)

/- THE SECOND FORM. 'bulk': how many values and letters a reading holds, each counted each time it is reached (what is shared counts as often as it is met; a slice's spare places count too). A statement '..UptoSaid' is the law's where the arguments, and the package variables that the reading takes, are together of bulk at most 1048576: NARROWER than '..Said'. Prove '..Said' where nothing that the law and all that it calls make is longer than what came in: it says more and counts as full. Else prove '..UptoSaid'. A law counts once. -/
mutual
def uptoBulk {H : Type} : DataW H → Nat
  | .lit (.string bytes) => bytes.length + 1
  | .lit _ => 1
  | .nil => 1
  | .ptr d => uptoBulk d + 1
  | .slice elems spare => uptoBulkAll elems + uptoBulkAll spare + 1
  | .agg parts => uptoBulkAll parts + 1
  | .iface _ d => uptoBulk d + 1
  | .map entries => uptoBulkEntries entries + 1
  | .held _ => 1
def uptoBulkAll {H : Type} : List (DataW H) → Nat
  | [] => 0
  | d :: r => uptoBulk d + uptoBulkAll r
def uptoBulkEntries {H : Type} : List (Lit × DataW H) → Nat
  | [] => 0
  | x :: r => uptoBulkEntry x + uptoBulkEntries r
def uptoBulkEntry {H : Type} : Lit × DataW H → Nat
  | (.string bytes, d) => bytes.length + uptoBulk d + 1
  | (_, d) => uptoBulk d + 1
 end
def uptoSmall : (H : Type) → List (DataW H) → Bool := fun _ ds => decide (uptoBulkAll ds ≤ 1048576)
def OpenSpec.upto (s : _root_.Go.ChangeSpec) : _root_.Go.OpenSpec := { _root_.Go.OpenSpec.ofChange s with cond := some uptoSmall }

/-- 'fretsawlaw30.MasterWhole', WHERE WHAT IT READS IS OF BULK AT MOST 1048576: true; the input reads as it did. -/
def masterWholeUptoRow : OpenClaim := { program := "ytopmifmfecfaaaa", sum := "91acadef21d2008210bf56bb8b983c97d22779df3ded01949188ba54600dd1fc", func := "fretsaw/fretsawlaw30.MasterWhole", spec := "masterWhole", unfollowed := true, recurses := true, apart := false, narrowed := true }
def MasterWholeUptoSaid : Prop := masterWholeUptoRow.holds Try.pinned (OpenSpec.upto masterWholeSpec)

/-- 'fretsawlaw34.ResidualHalf', WHERE WHAT IT READS IS OF BULK AT MOST 1048576: true; the input reads as it did. -/
def residualHalfUptoRow : OpenClaim := { program := "ytopmifmfecfaaaa", sum := "91acadef21d2008210bf56bb8b983c97d22779df3ded01949188ba54600dd1fc", func := "fretsaw/fretsawlaw34.ResidualHalf", spec := "residualHalf", unfollowed := true, recurses := true, apart := false, narrowed := true }
def ResidualHalfUptoSaid : Prop := residualHalfUptoRow.holds Try.pinned (OpenSpec.upto residualHalfSpec)

/-- 'fretsawlaw34.ResidualRound', WHERE WHAT IT READS IS OF BULK AT MOST 1048576: true; the input reads as it did. -/
def residualRoundUptoRow : OpenClaim := { program := "ytopmifmfecfaaaa", sum := "91acadef21d2008210bf56bb8b983c97d22779df3ded01949188ba54600dd1fc", func := "fretsaw/fretsawlaw34.ResidualRound", spec := "residualRound", unfollowed := true, recurses := true, apart := false, narrowed := true }
def ResidualRoundUptoSaid : Prop := residualRoundUptoRow.holds Try.pinned (OpenSpec.upto residualRoundSpec)

/-- 'fretsawlaw34.ResidualUp', WHERE WHAT IT READS IS OF BULK AT MOST 1048576: true; the input reads as it did. -/
def residualUpUptoRow : OpenClaim := { program := "ytopmifmfecfaaaa", sum := "91acadef21d2008210bf56bb8b983c97d22779df3ded01949188ba54600dd1fc", func := "fretsaw/fretsawlaw34.ResidualUp", spec := "residualUp", unfollowed := true, recurses := true, apart := false, narrowed := true }
def ResidualUpUptoSaid : Prop := residualUpUptoRow.holds Try.pinned (OpenSpec.upto residualUpSpec)

end Rows
end Go.Proofs.Ytopmifmfecfaaaa
