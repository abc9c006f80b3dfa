/-
  No cell of these rows narrows 'for every input' (looked for: loops, veiled, ifaces, maps, wideKeys, modest, calm, conditions, laid).
  DERIVED. THE GIVEN ROWS OF THIS SEAT. 6 by the template 'for every input the law returns true; each argument reads behind the call as it read before'; 0 by the template 'total and deterministic' (their statements: YtdlojjhknmmmlaaTotals.lean).
  GIVEN WITH THE SEED: the statements are not yours to turn. If you find one false, say at which input.
  Laid BY PROGRAM, IN A SANDBOX (cutbox-rows.mjs): the forced cells as the released guide's own fill.sh prints them over the translation 370db0cf23a1aae6… (all of the seat's roots in one cut). By AI agents, Wed Nov 11 2026. No macro, syntax, notation, axiom, sorry.
-/
import Derived.Test.YtdlojjhknmmmlaaChecked
import GoSem.Claim
import GoSem.ClaimJoined
import GoSem.ClaimMapViews
import Derived.JoinedTies
import Derived.KernelRfl
namespace Go.Proofs.Ytdlojjhknmmmlaa
/- THE CELL 'sum', in the pinned program and in every row, IS THE sha256 OF THE DUMP (.gsa) THAT YtdlojjhknmmmlaaProg.lean LOADS. Nothing in Lean hashes anything: it is a label: what it is worth is what the hold of that sum in a sandbox is worth. -/
noncomputable def Try.pinned : Pinned := { name := "ytdlojjhknmmmlaa", sum := "370db0cf23a1aae656d841a1cd47cb04e1e863a22881cb42b39548f4a676b130", checked := Try.checked }
namespace Rows
def none {H : Type} : Left H := { results := [], args := [] }

/-- 'fretsawlaw31.ColumnFinal': WHATEVER THE INPUT: true; the input reads as it did. -/
def columnFinalSpec : ChangeSpec := { name := "columnFinal", fn := fun _ => fun
  | [d1, d2] => { results := [.lit (.bool true)], args := [d1, d2] }
  | _ => none }
def columnFinalRow : OpenClaim := { program := "ytdlojjhknmmmlaa", sum := "370db0cf23a1aae656d841a1cd47cb04e1e863a22881cb42b39548f4a676b130", func := "fretsaw/fretsawlaw31.ColumnFinal", spec := "columnFinal", unfollowed := true, recurses := true, apart := false }
def ColumnFinalSaid : Prop := columnFinalRow.holds Try.pinned (OpenSpec.ofChange columnFinalSpec)

/-- ITS FALSE NEIGHBOUR: 'it returns false'. Refute it at one input. -/
def columnFinalWrong : ChangeSpec := { name := "columnFinal", fn := fun _ => fun
  | [d1, d2] => { results := [.lit (.bool false)], args := [d1, d2] }
  | _ => none }
def ColumnFinalWrongFalsely : Prop := columnFinalRow.holds Try.pinned (OpenSpec.ofChange columnFinalWrong)

/-- 'fretsawlaw31.ColumnGrows': WHATEVER THE INPUT: true; the input reads as it did. -/
def columnGrowsSpec : ChangeSpec := { name := "columnGrows", fn := fun _ => fun
  | [d1, d2] => { results := [.lit (.bool true)], args := [d1, d2] }
  | _ => none }
def columnGrowsRow : OpenClaim := { program := "ytdlojjhknmmmlaa", sum := "370db0cf23a1aae656d841a1cd47cb04e1e863a22881cb42b39548f4a676b130", func := "fretsaw/fretsawlaw31.ColumnGrows", spec := "columnGrows", unfollowed := true, recurses := true, apart := false }
def ColumnGrowsSaid : Prop := columnGrowsRow.holds Try.pinned (OpenSpec.ofChange columnGrowsSpec)

/-- ITS FALSE NEIGHBOUR: 'it returns false'. Refute it at one input. -/
def columnGrowsWrong : ChangeSpec := { name := "columnGrows", fn := fun _ => fun
  | [d1, d2] => { results := [.lit (.bool false)], args := [d1, d2] }
  | _ => none }
def ColumnGrowsWrongFalsely : Prop := columnGrowsRow.holds Try.pinned (OpenSpec.ofChange columnGrowsWrong)

/-- 'fretsawlaw31.ColumnPrice': WHATEVER THE INPUT: true; the input reads as it did. -/
def columnPriceSpec : ChangeSpec := { name := "columnPrice", fn := fun _ => fun
  | [d1, d2] => { results := [.lit (.bool true)], args := [d1, d2] }
  | _ => none }
def columnPriceRow : OpenClaim := { program := "ytdlojjhknmmmlaa", sum := "370db0cf23a1aae656d841a1cd47cb04e1e863a22881cb42b39548f4a676b130", func := "fretsaw/fretsawlaw31.ColumnPrice", spec := "columnPrice", unfollowed := true, recurses := true, apart := false }
def ColumnPriceSaid : Prop := columnPriceRow.holds Try.pinned (OpenSpec.ofChange columnPriceSpec)

/-- ITS FALSE NEIGHBOUR: 'it returns false'. Refute it at one input. -/
def columnPriceWrong : ChangeSpec := { name := "columnPrice", fn := fun _ => fun
  | [d1, d2] => { results := [.lit (.bool false)], args := [d1, d2] }
  | _ => none }
def ColumnPriceWrongFalsely : Prop := columnPriceRow.holds Try.pinned (OpenSpec.ofChange columnPriceWrong)

/-- 'fretsawlaw31.ColumnBound': WHATEVER THE INPUT: true; the input reads as it did. -/
def columnBoundSpec : ChangeSpec := { name := "columnBound", fn := fun _ => fun
  | [d1, d2, d3] => { results := [.lit (.bool true)], args := [d1, d2, d3] }
  | _ => none }
def columnBoundRow : OpenClaim := { program := "ytdlojjhknmmmlaa", sum := "370db0cf23a1aae656d841a1cd47cb04e1e863a22881cb42b39548f4a676b130", func := "fretsaw/fretsawlaw31.ColumnBound", spec := "columnBound", unfollowed := true, recurses := true, apart := false }
def ColumnBoundSaid : Prop := columnBoundRow.holds Try.pinned (OpenSpec.ofChange columnBoundSpec)

/-- ITS FALSE NEIGHBOUR: 'it returns false'. Refute it at one input. -/
def columnBoundWrong : ChangeSpec := { name := "columnBound", fn := fun _ => fun
  | [d1, d2, d3] => { results := [.lit (.bool false)], args := [d1, d2, d3] }
  | _ => none }
def ColumnBoundWrongFalsely : Prop := columnBoundRow.holds Try.pinned (OpenSpec.ofChange columnBoundWrong)

/-- 'fretsawlaw30.MasterStart': WHATEVER THE INPUT: true; the input reads as it did. -/
def masterStartSpec : ChangeSpec := { name := "masterStart", fn := fun _ => fun
  | [d] => { results := [.lit (.bool true)], args := [d] }
  | _ => none }
def masterStartRow : OpenClaim := { program := "ytdlojjhknmmmlaa", sum := "370db0cf23a1aae656d841a1cd47cb04e1e863a22881cb42b39548f4a676b130", func := "fretsaw/fretsawlaw30.MasterStart", spec := "masterStart", unfollowed := true, recurses := true, apart := false }
def MasterStartSaid : Prop := masterStartRow.holds Try.pinned (OpenSpec.ofChange masterStartSpec)

/-- ITS FALSE NEIGHBOUR: 'it returns false'. Refute it at one input. -/
def masterStartWrong : ChangeSpec := { name := "masterStart", fn := fun _ => fun
  | [d] => { results := [.lit (.bool false)], args := [d] }
  | _ => none }
def MasterStartWrongFalsely : Prop := masterStartRow.holds Try.pinned (OpenSpec.ofChange masterStartWrong)

/-- 'fretsawlaw30.MasterWhole': WHATEVER THE INPUT: true; the input reads as it did. -/
def masterWholeSpec : ChangeSpec := { name := "masterWhole", fn := fun _ => fun
  | [d1, d2] => { results := [.lit (.bool true)], args := [d1, d2] }
  | _ => none }
def masterWholeRow : OpenClaim := { program := "ytdlojjhknmmmlaa", sum := "370db0cf23a1aae656d841a1cd47cb04e1e863a22881cb42b39548f4a676b130", func := "fretsaw/fretsawlaw30.MasterWhole", spec := "masterWhole", unfollowed := true, recurses := true, apart := false }
def MasterWholeSaid : Prop := masterWholeRow.holds Try.pinned (OpenSpec.ofChange masterWholeSpec)

/-- ITS FALSE NEIGHBOUR: 'it returns false'. Refute it at one input. -/
def masterWholeWrong : ChangeSpec := { name := "masterWhole", fn := fun _ => fun
  | [d1, d2] => { results := [.lit (.bool false)], args := [d1, d2] }
  | _ => none }
def MasterWholeWrongFalsely : Prop := masterWholeRow.holds Try.pinned (OpenSpec.ofChange masterWholeWrong)

/- THE SECOND FORM. 'bulk': how many values and letters a reading holds, each counted each time it is reached (what is shared counts as often as it is met; a slice's spare places count too). A statement '..UptoSaid' is the law's where the arguments, and the package variables that the reading takes, are together of bulk at most 1048576: NARROWER than '..Said'. Prove '..Said' where nothing that the law and all that it calls make is longer than what came in: it says more and counts as full. Else prove '..UptoSaid'. A law counts once. -/
mutual
def uptoBulk {H : Type} : DataW H → Nat
  | .lit (.string bytes) => bytes.length + 1
  | .lit _ => 1
  | .nil => 1
  | .ptr d => uptoBulk d + 1
  | .slice elems spare => uptoBulkAll elems + uptoBulkAll spare + 1
  | .agg parts => uptoBulkAll parts + 1
  | .iface _ d => uptoBulk d + 1
  | .map entries => uptoBulkEntries entries + 1
  | .held _ => 1
def uptoBulkAll {H : Type} : List (DataW H) → Nat
  | [] => 0
  | d :: r => uptoBulk d + uptoBulkAll r
def uptoBulkEntries {H : Type} : List (Lit × DataW H) → Nat
  | [] => 0
  | x :: r => uptoBulkEntry x + uptoBulkEntries r
def uptoBulkEntry {H : Type} : Lit × DataW H → Nat
  | (.string bytes, d) => bytes.length + uptoBulk d + 1
  | (_, d) => uptoBulk d + 1
 end
def uptoSmall : (H : Type) → List (DataW H) → Bool := fun _ ds => decide (uptoBulkAll ds ≤ 1048576)
def OpenSpec.upto (s : _root_.Go.ChangeSpec) : _root_.Go.OpenSpec := { _root_.Go.OpenSpec.ofChange s with cond := some uptoSmall }

/-- 'fretsawlaw31.ColumnFinal', WHERE WHAT IT READS IS OF BULK AT MOST 1048576: true; the input reads as it did. -/
def columnFinalUptoRow : OpenClaim := { program := "ytdlojjhknmmmlaa", sum := "370db0cf23a1aae656d841a1cd47cb04e1e863a22881cb42b39548f4a676b130", func := "fretsaw/fretsawlaw31.ColumnFinal", spec := "columnFinal", unfollowed := true, recurses := true, apart := false, narrowed := true }
def ColumnFinalUptoSaid : Prop := columnFinalUptoRow.holds Try.pinned (OpenSpec.upto columnFinalSpec)

/-- 'fretsawlaw31.ColumnGrows', WHERE WHAT IT READS IS OF BULK AT MOST 1048576: true; the input reads as it did. -/
def columnGrowsUptoRow : OpenClaim := { program := "ytdlojjhknmmmlaa", sum := "370db0cf23a1aae656d841a1cd47cb04e1e863a22881cb42b39548f4a676b130", func := "fretsaw/fretsawlaw31.ColumnGrows", spec := "columnGrows", unfollowed := true, recurses := true, apart := false, narrowed := true }
def ColumnGrowsUptoSaid : Prop := columnGrowsUptoRow.holds Try.pinned (OpenSpec.upto columnGrowsSpec)

/-- 'fretsawlaw31.ColumnPrice', WHERE WHAT IT READS IS OF BULK AT MOST 1048576: true; the input reads as it did. -/
def columnPriceUptoRow : OpenClaim := { program := "ytdlojjhknmmmlaa", sum := "370db0cf23a1aae656d841a1cd47cb04e1e863a22881cb42b39548f4a676b130", func := "fretsaw/fretsawlaw31.ColumnPrice", spec := "columnPrice", unfollowed := true, recurses := true, apart := false, narrowed := true }
def ColumnPriceUptoSaid : Prop := columnPriceUptoRow.holds Try.pinned (OpenSpec.upto columnPriceSpec)

/-- 'fretsawlaw31.ColumnBound', WHERE WHAT IT READS IS OF BULK AT MOST 1048576: true; the input reads as it did. -/
def columnBoundUptoRow : OpenClaim := { program := "ytdlojjhknmmmlaa", sum := "370db0cf23a1aae656d841a1cd47cb04e1e863a22881cb42b39548f4a676b130", func := "fretsaw/fretsawlaw31.ColumnBound", spec := "columnBound", unfollowed := true, recurses := true, apart := false, narrowed := true }
def ColumnBoundUptoSaid : Prop := columnBoundUptoRow.holds Try.pinned (OpenSpec.upto columnBoundSpec)

/-- 'fretsawlaw30.MasterStart', WHERE WHAT IT READS IS OF BULK AT MOST 1048576: true; the input reads as it did. -/
def masterStartUptoRow : OpenClaim := { program := "ytdlojjhknmmmlaa", sum := "370db0cf23a1aae656d841a1cd47cb04e1e863a22881cb42b39548f4a676b130", func := "fretsaw/fretsawlaw30.MasterStart", spec := "masterStart", unfollowed := true, recurses := true, apart := false, narrowed := true }
def MasterStartUptoSaid : Prop := masterStartUptoRow.holds Try.pinned (OpenSpec.upto masterStartSpec)

/-- 'fretsawlaw30.MasterWhole', WHERE WHAT IT READS IS OF BULK AT MOST 1048576: true; the input reads as it did. -/
def masterWholeUptoRow : OpenClaim := { program := "ytdlojjhknmmmlaa", sum := "370db0cf23a1aae656d841a1cd47cb04e1e863a22881cb42b39548f4a676b130", func := "fretsaw/fretsawlaw30.MasterWhole", spec := "masterWhole", unfollowed := true, recurses := true, apart := false, narrowed := true }
def MasterWholeUptoSaid : Prop := masterWholeUptoRow.holds Try.pinned (OpenSpec.upto masterWholeSpec)

end Rows
end Go.Proofs.Ytdlojjhknmmmlaa
