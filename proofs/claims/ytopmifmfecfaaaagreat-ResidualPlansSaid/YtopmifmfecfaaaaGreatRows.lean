/-
  No cell of these rows narrows 'for every input' (looked for: loops, veiled, ifaces, maps, wideKeys, modest, calm, conditions, laid).
  DERIVED. THE GIVEN ROWS OF THIS SEAT. 6 by the template 'for every input the law returns true; each argument reads behind the call as it read before'; 0 by the template 'total and deterministic' (their statements: YtopmifmfecfaaaaGreatTotals.lean).
  GIVEN WITH THE SEED: the statements are not yours to turn. If you find one false, say at which input.
  Laid BY PROGRAM, IN A SANDBOX (cutbox-rows.mjs): the forced cells as the released guide's own fill.sh prints them over the translation b15f3e6374c98f8e… (all of the seat's roots in one cut). By AI agents, Wed Nov 11 2026. No macro, syntax, notation, axiom, sorry.
-/
import Derived.Test.YtopmifmfecfaaaaGreatChecked
import GoSem.Claim
import GoSem.ClaimJoined
import GoSem.ClaimMapViews
import Derived.JoinedTies
import Derived.KernelRfl
namespace Go.Proofs.YtopmifmfecfaaaaGreat
/- THE CELL 'sum', in the pinned program and in every row, IS THE sha256 OF THE DUMP (.gsa) THAT YtopmifmfecfaaaaGreatProg.lean LOADS. Nothing in Lean hashes anything: it is a label: what it is worth is what the hold of that sum in a sandbox is worth. -/
noncomputable def Tryz.pinned : Pinned := { name := "ytopmifmfecfaaaagreat", sum := "b15f3e6374c98f8e71fcb000490b3a07e49e881fd5fc4f09eba5ce6e095547e7", checked := Tryz.checked }
namespace Rows
def none {H : Type} : Left H := { results := [], args := [] }

/-- 'fretsawlaw31.ColumnSolve': WHATEVER THE INPUT: true; the input reads as it did. -/
def columnSolveSpec : ChangeSpec := { name := "columnSolve", fn := fun _ => fun
  | [d] => { results := [.lit (.bool true)], args := [d] }
  | _ => none }
def columnSolveRow : OpenClaim := { program := "ytopmifmfecfaaaagreat", sum := "b15f3e6374c98f8e71fcb000490b3a07e49e881fd5fc4f09eba5ce6e095547e7", func := "fretsaw/fretsawlaw31.ColumnSolve", spec := "columnSolve", unfollowed := true, recurses := true, apart := false }
def ColumnSolveSaid : Prop := columnSolveRow.holds Tryz.pinned (OpenSpec.ofChange columnSolveSpec)

/-- ITS FALSE NEIGHBOUR: 'it returns false'. Refute it at one input. -/
def columnSolveWrong : ChangeSpec := { name := "columnSolve", fn := fun _ => fun
  | [d] => { results := [.lit (.bool false)], args := [d] }
  | _ => none }
def ColumnSolveWrongFalsely : Prop := columnSolveRow.holds Tryz.pinned (OpenSpec.ofChange columnSolveWrong)

/-- 'fretsawlaw32.DualMake': WHATEVER THE INPUT: true; the input reads as it did. -/
def dualMakeSpec : ChangeSpec := { name := "dualMake", fn := fun _ => fun
  | [d] => { results := [.lit (.bool true)], args := [d] }
  | _ => none }
def dualMakeRow : OpenClaim := { program := "ytopmifmfecfaaaagreat", sum := "b15f3e6374c98f8e71fcb000490b3a07e49e881fd5fc4f09eba5ce6e095547e7", func := "fretsaw/fretsawlaw32.DualMake", spec := "dualMake", unfollowed := true, recurses := true, apart := false }
def DualMakeSaid : Prop := dualMakeRow.holds Tryz.pinned (OpenSpec.ofChange dualMakeSpec)

/-- ITS FALSE NEIGHBOUR: 'it returns false'. Refute it at one input. -/
def dualMakeWrong : ChangeSpec := { name := "dualMake", fn := fun _ => fun
  | [d] => { results := [.lit (.bool false)], args := [d] }
  | _ => none }
def DualMakeWrongFalsely : Prop := dualMakeRow.holds Tryz.pinned (OpenSpec.ofChange dualMakeWrong)

/-- 'fretsawlaw32.DualRight': WHATEVER THE INPUT: true; the input reads as it did. -/
def dualRightSpec : ChangeSpec := { name := "dualRight", fn := fun _ => fun
  | [d] => { results := [.lit (.bool true)], args := [d] }
  | _ => none }
def dualRightRow : OpenClaim := { program := "ytopmifmfecfaaaagreat", sum := "b15f3e6374c98f8e71fcb000490b3a07e49e881fd5fc4f09eba5ce6e095547e7", func := "fretsaw/fretsawlaw32.DualRight", spec := "dualRight", unfollowed := true, recurses := true, apart := false }
def DualRightSaid : Prop := dualRightRow.holds Tryz.pinned (OpenSpec.ofChange dualRightSpec)

/-- ITS FALSE NEIGHBOUR: 'it returns false'. Refute it at one input. -/
def dualRightWrong : ChangeSpec := { name := "dualRight", fn := fun _ => fun
  | [d] => { results := [.lit (.bool false)], args := [d] }
  | _ => none }
def DualRightWrongFalsely : Prop := dualRightRow.holds Tryz.pinned (OpenSpec.ofChange dualRightWrong)

/-- 'fretsawlaw34.ResidualExact': WHATEVER THE INPUT: true; the input reads as it did. -/
def residualExactSpec : ChangeSpec := { name := "residualExact", fn := fun _ => fun
  | [d1, d2] => { results := [.lit (.bool true)], args := [d1, d2] }
  | _ => none }
def residualExactRow : OpenClaim := { program := "ytopmifmfecfaaaagreat", sum := "b15f3e6374c98f8e71fcb000490b3a07e49e881fd5fc4f09eba5ce6e095547e7", func := "fretsaw/fretsawlaw34.ResidualExact", spec := "residualExact", unfollowed := true, recurses := true, apart := false }
def ResidualExactSaid : Prop := residualExactRow.holds Tryz.pinned (OpenSpec.ofChange residualExactSpec)

/-- ITS FALSE NEIGHBOUR: 'it returns false'. Refute it at one input. -/
def residualExactWrong : ChangeSpec := { name := "residualExact", fn := fun _ => fun
  | [d1, d2] => { results := [.lit (.bool false)], args := [d1, d2] }
  | _ => none }
def ResidualExactWrongFalsely : Prop := residualExactRow.holds Tryz.pinned (OpenSpec.ofChange residualExactWrong)

/-- 'fretsawlaw34.ResidualBound': WHATEVER THE INPUT: true; the input reads as it did. -/
def residualBoundSpec : ChangeSpec := { name := "residualBound", fn := fun _ => fun
  | [d] => { results := [.lit (.bool true)], args := [d] }
  | _ => none }
def residualBoundRow : OpenClaim := { program := "ytopmifmfecfaaaagreat", sum := "b15f3e6374c98f8e71fcb000490b3a07e49e881fd5fc4f09eba5ce6e095547e7", func := "fretsaw/fretsawlaw34.ResidualBound", spec := "residualBound", unfollowed := true, recurses := true, apart := false }
def ResidualBoundSaid : Prop := residualBoundRow.holds Tryz.pinned (OpenSpec.ofChange residualBoundSpec)

/-- ITS FALSE NEIGHBOUR: 'it returns false'. Refute it at one input. -/
def residualBoundWrong : ChangeSpec := { name := "residualBound", fn := fun _ => fun
  | [d] => { results := [.lit (.bool false)], args := [d] }
  | _ => none }
def ResidualBoundWrongFalsely : Prop := residualBoundRow.holds Tryz.pinned (OpenSpec.ofChange residualBoundWrong)

/-- 'fretsawlaw34.ResidualPlans': WHATEVER THE INPUT: true; the input reads as it did. -/
def residualPlansSpec : ChangeSpec := { name := "residualPlans", fn := fun _ => fun
  | [d1, d2] => { results := [.lit (.bool true)], args := [d1, d2] }
  | _ => none }
def residualPlansRow : OpenClaim := { program := "ytopmifmfecfaaaagreat", sum := "b15f3e6374c98f8e71fcb000490b3a07e49e881fd5fc4f09eba5ce6e095547e7", func := "fretsaw/fretsawlaw34.ResidualPlans", spec := "residualPlans", unfollowed := true, recurses := true, apart := false }
def ResidualPlansSaid : Prop := residualPlansRow.holds Tryz.pinned (OpenSpec.ofChange residualPlansSpec)

/-- ITS FALSE NEIGHBOUR: 'it returns false'. Refute it at one input. -/
def residualPlansWrong : ChangeSpec := { name := "residualPlans", fn := fun _ => fun
  | [d1, d2] => { results := [.lit (.bool false)], args := [d1, d2] }
  | _ => none }
def ResidualPlansWrongFalsely : Prop := residualPlansRow.holds Tryz.pinned (OpenSpec.ofChange residualPlansWrong)

/- THE SECOND FORM. 'bulk': how many values and letters a reading holds, each counted each time it is reached (what is shared counts as often as it is met; a slice's spare places count too). A statement '..UptoSaid' is the law's where the arguments, and the package variables that the reading takes, are together of bulk at most 1048576: NARROWER than '..Said'. Prove '..Said' where nothing that the law and all that it calls make is longer than what came in: it says more and counts as full. Else prove '..UptoSaid'. A law counts once. -/
mutual
def uptoBulk {H : Type} : DataW H → Nat
  | .lit (.string bytes) => bytes.length + 1
  | .lit _ => 1
  | .nil => 1
  | .ptr d => uptoBulk d + 1
  | .slice elems spare => uptoBulkAll elems + uptoBulkAll spare + 1
  | .agg parts => uptoBulkAll parts + 1
  | .iface _ d => uptoBulk d + 1
  | .map entries => uptoBulkEntries entries + 1
  | .held _ => 1
def uptoBulkAll {H : Type} : List (DataW H) → Nat
  | [] => 0
  | d :: r => uptoBulk d + uptoBulkAll r
def uptoBulkEntries {H : Type} : List (Lit × DataW H) → Nat
  | [] => 0
  | x :: r => uptoBulkEntry x + uptoBulkEntries r
def uptoBulkEntry {H : Type} : Lit × DataW H → Nat
  | (.string bytes, d) => bytes.length + uptoBulk d + 1
  | (_, d) => uptoBulk d + 1
 end
def uptoSmall : (H : Type) → List (DataW H) → Bool := fun _ ds => decide (uptoBulkAll ds ≤ 1048576)
def OpenSpec.upto (s : _root_.Go.ChangeSpec) : _root_.Go.OpenSpec := { _root_.Go.OpenSpec.ofChange s with cond := some uptoSmall }

/-- 'fretsawlaw31.ColumnSolve', WHERE WHAT IT READS IS OF BULK AT MOST 1048576: true; the input reads as it did. -/
def columnSolveUptoRow : OpenClaim := { program := "ytopmifmfecfaaaagreat", sum := "b15f3e6374c98f8e71fcb000490b3a07e49e881fd5fc4f09eba5ce6e095547e7", func := "fretsaw/fretsawlaw31.ColumnSolve", spec := "columnSolve", unfollowed := true, recurses := true, apart := false, narrowed := true }
def ColumnSolveUptoSaid : Prop := columnSolveUptoRow.holds Tryz.pinned (OpenSpec.upto columnSolveSpec)

/-- 'fretsawlaw32.DualMake', WHERE WHAT IT READS IS OF BULK AT MOST 1048576: true; the input reads as it did. -/
def dualMakeUptoRow : OpenClaim := { program := "ytopmifmfecfaaaagreat", sum := "b15f3e6374c98f8e71fcb000490b3a07e49e881fd5fc4f09eba5ce6e095547e7", func := "fretsaw/fretsawlaw32.DualMake", spec := "dualMake", unfollowed := true, recurses := true, apart := false, narrowed := true }
def DualMakeUptoSaid : Prop := dualMakeUptoRow.holds Tryz.pinned (OpenSpec.upto dualMakeSpec)

/-- 'fretsawlaw32.DualRight', WHERE WHAT IT READS IS OF BULK AT MOST 1048576: true; the input reads as it did. -/
def dualRightUptoRow : OpenClaim := { program := "ytopmifmfecfaaaagreat", sum := "b15f3e6374c98f8e71fcb000490b3a07e49e881fd5fc4f09eba5ce6e095547e7", func := "fretsaw/fretsawlaw32.DualRight", spec := "dualRight", unfollowed := true, recurses := true, apart := false, narrowed := true }
def DualRightUptoSaid : Prop := dualRightUptoRow.holds Tryz.pinned (OpenSpec.upto dualRightSpec)

/-- 'fretsawlaw34.ResidualExact', WHERE WHAT IT READS IS OF BULK AT MOST 1048576: true; the input reads as it did. -/
def residualExactUptoRow : OpenClaim := { program := "ytopmifmfecfaaaagreat", sum := "b15f3e6374c98f8e71fcb000490b3a07e49e881fd5fc4f09eba5ce6e095547e7", func := "fretsaw/fretsawlaw34.ResidualExact", spec := "residualExact", unfollowed := true, recurses := true, apart := false, narrowed := true }
def ResidualExactUptoSaid : Prop := residualExactUptoRow.holds Tryz.pinned (OpenSpec.upto residualExactSpec)

/-- 'fretsawlaw34.ResidualBound', WHERE WHAT IT READS IS OF BULK AT MOST 1048576: true; the input reads as it did. -/
def residualBoundUptoRow : OpenClaim := { program := "ytopmifmfecfaaaagreat", sum := "b15f3e6374c98f8e71fcb000490b3a07e49e881fd5fc4f09eba5ce6e095547e7", func := "fretsaw/fretsawlaw34.ResidualBound", spec := "residualBound", unfollowed := true, recurses := true, apart := false, narrowed := true }
def ResidualBoundUptoSaid : Prop := residualBoundUptoRow.holds Tryz.pinned (OpenSpec.upto residualBoundSpec)

/-- 'fretsawlaw34.ResidualPlans', WHERE WHAT IT READS IS OF BULK AT MOST 1048576: true; the input reads as it did. -/
def residualPlansUptoRow : OpenClaim := { program := "ytopmifmfecfaaaagreat", sum := "b15f3e6374c98f8e71fcb000490b3a07e49e881fd5fc4f09eba5ce6e095547e7", func := "fretsaw/fretsawlaw34.ResidualPlans", spec := "residualPlans", unfollowed := true, recurses := true, apart := false, narrowed := true }
def ResidualPlansUptoSaid : Prop := residualPlansUptoRow.holds Tryz.pinned (OpenSpec.upto residualPlansSpec)

end Rows
end Go.Proofs.YtopmifmfecfaaaaGreat
