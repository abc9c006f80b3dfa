/-
  No cell of these rows narrows 'for every input' (looked for: loops, veiled, ifaces, maps, wideKeys, modest, calm, conditions, laid).
  DERIVED. THE GIVEN ROWS OF THIS SEAT. 11 by the template 'for every input the law returns true; each argument reads behind the call as it read before'; 0 by the template 'total and deterministic' (their statements: YtelfplepnodbgaaTotals.lean).
  GIVEN WITH THE SEED: the statements are not yours to turn. If you find one false, say at which input.
  Laid BY PROGRAM, IN A SANDBOX (cutbox-rows.mjs): the forced cells as the released guide's own fill.sh prints them over the translation 6ed25b8bb8c37aa4… (all of the seat's roots in one cut). By AI agents, Wed Nov 11 2026. No macro, syntax, notation, axiom, sorry.
-/
import Derived.Test.YtelfplepnodbgaaChecked
import GoSem.Claim
import GoSem.ClaimJoined
import GoSem.ClaimMapViews
import Derived.JoinedTies
import Derived.KernelRfl
namespace Go.Proofs.Ytelfplepnodbgaa
/- THE CELL 'sum', in the pinned program and in every row, IS THE sha256 OF THE DUMP (.gsa) THAT YtelfplepnodbgaaProg.lean LOADS. Nothing in Lean hashes anything: it is a label: what it is worth is what the hold of that sum in a sandbox is worth. -/
noncomputable def Try.pinned : Pinned := { name := "ytelfplepnodbgaa", sum := "6ed25b8bb8c37aa46f1042b6c462ef6648db04e5175b342f3df3b8da44344169", checked := Try.checked }
namespace Rows
def none {H : Type} : Left H := { results := [], args := [] }

/-- 'fretsawlaw33.GomoryCut': WHATEVER THE INPUT: true; the input reads as it did. -/
def gomoryCutSpec : ChangeSpec := { name := "gomoryCut", fn := fun _ => fun
  | [d1, d2] => { results := [.lit (.bool true)], args := [d1, d2] }
  | _ => none }
def gomoryCutRow : OpenClaim := { program := "ytelfplepnodbgaa", sum := "6ed25b8bb8c37aa46f1042b6c462ef6648db04e5175b342f3df3b8da44344169", func := "fretsaw/fretsawlaw33.GomoryCut", spec := "gomoryCut", unfollowed := true, recurses := true, apart := false }
def GomoryCutSaid : Prop := gomoryCutRow.holds Try.pinned (OpenSpec.ofChange gomoryCutSpec)

/-- ITS FALSE NEIGHBOUR: 'it returns false'. Refute it at one input. -/
def gomoryCutWrong : ChangeSpec := { name := "gomoryCut", fn := fun _ => fun
  | [d1, d2] => { results := [.lit (.bool false)], args := [d1, d2] }
  | _ => none }
def GomoryCutWrongFalsely : Prop := gomoryCutRow.holds Try.pinned (OpenSpec.ofChange gomoryCutWrong)

/-- 'fretsawlaw33.GomoryValid': WHATEVER THE INPUT: true; the input reads as it did. -/
def gomoryValidSpec : ChangeSpec := { name := "gomoryValid", fn := fun _ => fun
  | [d1, d2] => { results := [.lit (.bool true)], args := [d1, d2] }
  | _ => none }
def gomoryValidRow : OpenClaim := { program := "ytelfplepnodbgaa", sum := "6ed25b8bb8c37aa46f1042b6c462ef6648db04e5175b342f3df3b8da44344169", func := "fretsaw/fretsawlaw33.GomoryValid", spec := "gomoryValid", unfollowed := true, recurses := true, apart := false }
def GomoryValidSaid : Prop := gomoryValidRow.holds Try.pinned (OpenSpec.ofChange gomoryValidSpec)

/-- ITS FALSE NEIGHBOUR: 'it returns false'. Refute it at one input. -/
def gomoryValidWrong : ChangeSpec := { name := "gomoryValid", fn := fun _ => fun
  | [d1, d2] => { results := [.lit (.bool false)], args := [d1, d2] }
  | _ => none }
def GomoryValidWrongFalsely : Prop := gomoryValidRow.holds Try.pinned (OpenSpec.ofChange gomoryValidWrong)

/-- 'fretsawlaw33.GomorySolve': WHATEVER THE INPUT: true; the input reads as it did. -/
def gomorySolveSpec : ChangeSpec := { name := "gomorySolve", fn := fun _ => fun
  | [d1, d2] => { results := [.lit (.bool true)], args := [d1, d2] }
  | _ => none }
def gomorySolveRow : OpenClaim := { program := "ytelfplepnodbgaa", sum := "6ed25b8bb8c37aa46f1042b6c462ef6648db04e5175b342f3df3b8da44344169", func := "fretsaw/fretsawlaw33.GomorySolve", spec := "gomorySolve", unfollowed := true, recurses := true, apart := false }
def GomorySolveSaid : Prop := gomorySolveRow.holds Try.pinned (OpenSpec.ofChange gomorySolveSpec)

/-- ITS FALSE NEIGHBOUR: 'it returns false'. Refute it at one input. -/
def gomorySolveWrong : ChangeSpec := { name := "gomorySolve", fn := fun _ => fun
  | [d1, d2] => { results := [.lit (.bool false)], args := [d1, d2] }
  | _ => none }
def GomorySolveWrongFalsely : Prop := gomorySolveRow.holds Try.pinned (OpenSpec.ofChange gomorySolveWrong)

/-- 'fretsawlaw33.GomoryBest': WHATEVER THE INPUT: true; the input reads as it did. -/
def gomoryBestSpec : ChangeSpec := { name := "gomoryBest", fn := fun _ => fun
  | [d1, d2] => { results := [.lit (.bool true)], args := [d1, d2] }
  | _ => none }
def gomoryBestRow : OpenClaim := { program := "ytelfplepnodbgaa", sum := "6ed25b8bb8c37aa46f1042b6c462ef6648db04e5175b342f3df3b8da44344169", func := "fretsaw/fretsawlaw33.GomoryBest", spec := "gomoryBest", unfollowed := true, recurses := true, apart := false }
def GomoryBestSaid : Prop := gomoryBestRow.holds Try.pinned (OpenSpec.ofChange gomoryBestSpec)

/-- ITS FALSE NEIGHBOUR: 'it returns false'. Refute it at one input. -/
def gomoryBestWrong : ChangeSpec := { name := "gomoryBest", fn := fun _ => fun
  | [d1, d2] => { results := [.lit (.bool false)], args := [d1, d2] }
  | _ => none }
def GomoryBestWrongFalsely : Prop := gomoryBestRow.holds Try.pinned (OpenSpec.ofChange gomoryBestWrong)

/-- 'fretsawlaw33.GomoryWhole': WHATEVER THE INPUT: true; the input reads as it did. -/
def gomoryWholeSpec : ChangeSpec := { name := "gomoryWhole", fn := fun _ => fun
  | [d] => { results := [.lit (.bool true)], args := [d] }
  | _ => none }
def gomoryWholeRow : OpenClaim := { program := "ytelfplepnodbgaa", sum := "6ed25b8bb8c37aa46f1042b6c462ef6648db04e5175b342f3df3b8da44344169", func := "fretsaw/fretsawlaw33.GomoryWhole", spec := "gomoryWhole", unfollowed := true, recurses := true, apart := false }
def GomoryWholeSaid : Prop := gomoryWholeRow.holds Try.pinned (OpenSpec.ofChange gomoryWholeSpec)

/-- ITS FALSE NEIGHBOUR: 'it returns false'. Refute it at one input. -/
def gomoryWholeWrong : ChangeSpec := { name := "gomoryWhole", fn := fun _ => fun
  | [d] => { results := [.lit (.bool false)], args := [d] }
  | _ => none }
def GomoryWholeWrongFalsely : Prop := gomoryWholeRow.holds Try.pinned (OpenSpec.ofChange gomoryWholeWrong)

/-- 'fretsawlaw30.MasterSolve': WHATEVER THE INPUT: true; the input reads as it did. -/
def masterSolveSpec : ChangeSpec := { name := "masterSolve", fn := fun _ => fun
  | [d1, d2] => { results := [.lit (.bool true)], args := [d1, d2] }
  | _ => none }
def masterSolveRow : OpenClaim := { program := "ytelfplepnodbgaa", sum := "6ed25b8bb8c37aa46f1042b6c462ef6648db04e5175b342f3df3b8da44344169", func := "fretsaw/fretsawlaw30.MasterSolve", spec := "masterSolve", unfollowed := true, recurses := true, apart := false }
def MasterSolveSaid : Prop := masterSolveRow.holds Try.pinned (OpenSpec.ofChange masterSolveSpec)

/-- ITS FALSE NEIGHBOUR: 'it returns false'. Refute it at one input. -/
def masterSolveWrong : ChangeSpec := { name := "masterSolve", fn := fun _ => fun
  | [d1, d2] => { results := [.lit (.bool false)], args := [d1, d2] }
  | _ => none }
def MasterSolveWrongFalsely : Prop := masterSolveRow.holds Try.pinned (OpenSpec.ofChange masterSolveWrong)

/-- 'fretsawlaw30.MasterPrices': WHATEVER THE INPUT: true; the input reads as it did. -/
def masterPricesSpec : ChangeSpec := { name := "masterPrices", fn := fun _ => fun
  | [d1, d2] => { results := [.lit (.bool true)], args := [d1, d2] }
  | _ => none }
def masterPricesRow : OpenClaim := { program := "ytelfplepnodbgaa", sum := "6ed25b8bb8c37aa46f1042b6c462ef6648db04e5175b342f3df3b8da44344169", func := "fretsaw/fretsawlaw30.MasterPrices", spec := "masterPrices", unfollowed := true, recurses := true, apart := false }
def MasterPricesSaid : Prop := masterPricesRow.holds Try.pinned (OpenSpec.ofChange masterPricesSpec)

/-- ITS FALSE NEIGHBOUR: 'it returns false'. Refute it at one input. -/
def masterPricesWrong : ChangeSpec := { name := "masterPrices", fn := fun _ => fun
  | [d1, d2] => { results := [.lit (.bool false)], args := [d1, d2] }
  | _ => none }
def MasterPricesWrongFalsely : Prop := masterPricesRow.holds Try.pinned (OpenSpec.ofChange masterPricesWrong)

/-- 'fretsawlaw30.MasterOrder': WHATEVER THE INPUT: true; the input reads as it did. -/
def masterOrderSpec : ChangeSpec := { name := "masterOrder", fn := fun _ => fun
  | [d1, d2, d3] => { results := [.lit (.bool true)], args := [d1, d2, d3] }
  | _ => none }
def masterOrderRow : OpenClaim := { program := "ytelfplepnodbgaa", sum := "6ed25b8bb8c37aa46f1042b6c462ef6648db04e5175b342f3df3b8da44344169", func := "fretsaw/fretsawlaw30.MasterOrder", spec := "masterOrder", unfollowed := true, recurses := true, apart := false }
def MasterOrderSaid : Prop := masterOrderRow.holds Try.pinned (OpenSpec.ofChange masterOrderSpec)

/-- ITS FALSE NEIGHBOUR: 'it returns false'. Refute it at one input. -/
def masterOrderWrong : ChangeSpec := { name := "masterOrder", fn := fun _ => fun
  | [d1, d2, d3] => { results := [.lit (.bool false)], args := [d1, d2, d3] }
  | _ => none }
def MasterOrderWrongFalsely : Prop := masterOrderRow.holds Try.pinned (OpenSpec.ofChange masterOrderWrong)

/-- 'fretsawlaw30.MasterStart': WHATEVER THE INPUT: true; the input reads as it did. -/
def masterStartSpec : ChangeSpec := { name := "masterStart", fn := fun _ => fun
  | [d] => { results := [.lit (.bool true)], args := [d] }
  | _ => none }
def masterStartRow : OpenClaim := { program := "ytelfplepnodbgaa", sum := "6ed25b8bb8c37aa46f1042b6c462ef6648db04e5175b342f3df3b8da44344169", func := "fretsaw/fretsawlaw30.MasterStart", spec := "masterStart", unfollowed := true, recurses := true, apart := false }
def MasterStartSaid : Prop := masterStartRow.holds Try.pinned (OpenSpec.ofChange masterStartSpec)

/-- ITS FALSE NEIGHBOUR: 'it returns false'. Refute it at one input. -/
def masterStartWrong : ChangeSpec := { name := "masterStart", fn := fun _ => fun
  | [d] => { results := [.lit (.bool false)], args := [d] }
  | _ => none }
def MasterStartWrongFalsely : Prop := masterStartRow.holds Try.pinned (OpenSpec.ofChange masterStartWrong)

/-- 'fretsawlaw30.MasterRead': WHATEVER THE INPUT: true; the input reads as it did. -/
def masterReadSpec : ChangeSpec := { name := "masterRead", fn := fun _ => fun
  | [d1, d2] => { results := [.lit (.bool true)], args := [d1, d2] }
  | _ => none }
def masterReadRow : OpenClaim := { program := "ytelfplepnodbgaa", sum := "6ed25b8bb8c37aa46f1042b6c462ef6648db04e5175b342f3df3b8da44344169", func := "fretsaw/fretsawlaw30.MasterRead", spec := "masterRead", unfollowed := true, recurses := true, apart := false }
def MasterReadSaid : Prop := masterReadRow.holds Try.pinned (OpenSpec.ofChange masterReadSpec)

/-- ITS FALSE NEIGHBOUR: 'it returns false'. Refute it at one input. -/
def masterReadWrong : ChangeSpec := { name := "masterRead", fn := fun _ => fun
  | [d1, d2] => { results := [.lit (.bool false)], args := [d1, d2] }
  | _ => none }
def MasterReadWrongFalsely : Prop := masterReadRow.holds Try.pinned (OpenSpec.ofChange masterReadWrong)

/-- 'fretsawlaw30.MasterWhole': WHATEVER THE INPUT: true; the input reads as it did. -/
def masterWholeSpec : ChangeSpec := { name := "masterWhole", fn := fun _ => fun
  | [d1, d2] => { results := [.lit (.bool true)], args := [d1, d2] }
  | _ => none }
def masterWholeRow : OpenClaim := { program := "ytelfplepnodbgaa", sum := "6ed25b8bb8c37aa46f1042b6c462ef6648db04e5175b342f3df3b8da44344169", func := "fretsaw/fretsawlaw30.MasterWhole", spec := "masterWhole", unfollowed := true, recurses := true, apart := false }
def MasterWholeSaid : Prop := masterWholeRow.holds Try.pinned (OpenSpec.ofChange masterWholeSpec)

/-- ITS FALSE NEIGHBOUR: 'it returns false'. Refute it at one input. -/
def masterWholeWrong : ChangeSpec := { name := "masterWhole", fn := fun _ => fun
  | [d1, d2] => { results := [.lit (.bool false)], args := [d1, d2] }
  | _ => none }
def MasterWholeWrongFalsely : Prop := masterWholeRow.holds Try.pinned (OpenSpec.ofChange masterWholeWrong)

/- THE SECOND FORM. 'bulk': how many values and letters a reading holds, each counted each time it is reached (what is shared counts as often as it is met; a slice's spare places count too). A statement '..UptoSaid' is the law's where the arguments, and the package variables that the reading takes, are together of bulk at most 1048576: NARROWER than '..Said'. Prove '..Said' where nothing that the law and all that it calls make is longer than what came in: it says more and counts as full. Else prove '..UptoSaid'. A law counts once. -/
mutual
def uptoBulk {H : Type} : DataW H → Nat
  | .lit (.string bytes) => bytes.length + 1
  | .lit _ => 1
  | .nil => 1
  | .ptr d => uptoBulk d + 1
  | .slice elems spare => uptoBulkAll elems + uptoBulkAll spare + 1
  | .agg parts => uptoBulkAll parts + 1
  | .iface _ d => uptoBulk d + 1
  | .map entries => uptoBulkEntries entries + 1
  | .held _ => 1
def uptoBulkAll {H : Type} : List (DataW H) → Nat
  | [] => 0
  | d :: r => uptoBulk d + uptoBulkAll r
def uptoBulkEntries {H : Type} : List (Lit × DataW H) → Nat
  | [] => 0
  | x :: r => uptoBulkEntry x + uptoBulkEntries r
def uptoBulkEntry {H : Type} : Lit × DataW H → Nat
  | (.string bytes, d) => bytes.length + uptoBulk d + 1
  | (_, d) => uptoBulk d + 1
 end
def uptoSmall : (H : Type) → List (DataW H) → Bool := fun _ ds => decide (uptoBulkAll ds ≤ 1048576)
def OpenSpec.upto (s : _root_.Go.ChangeSpec) : _root_.Go.OpenSpec := { _root_.Go.OpenSpec.ofChange s with cond := some uptoSmall }

/-- 'fretsawlaw33.GomoryCut', WHERE WHAT IT READS IS OF BULK AT MOST 1048576: true; the input reads as it did. -/
def gomoryCutUptoRow : OpenClaim := { program := "ytelfplepnodbgaa", sum := "6ed25b8bb8c37aa46f1042b6c462ef6648db04e5175b342f3df3b8da44344169", func := "fretsaw/fretsawlaw33.GomoryCut", spec := "gomoryCut", unfollowed := true, recurses := true, apart := false, narrowed := true }
def GomoryCutUptoSaid : Prop := gomoryCutUptoRow.holds Try.pinned (OpenSpec.upto gomoryCutSpec)

/-- 'fretsawlaw33.GomoryValid', WHERE WHAT IT READS IS OF BULK AT MOST 1048576: true; the input reads as it did. -/
def gomoryValidUptoRow : OpenClaim := { program := "ytelfplepnodbgaa", sum := "6ed25b8bb8c37aa46f1042b6c462ef6648db04e5175b342f3df3b8da44344169", func := "fretsaw/fretsawlaw33.GomoryValid", spec := "gomoryValid", unfollowed := true, recurses := true, apart := false, narrowed := true }
def GomoryValidUptoSaid : Prop := gomoryValidUptoRow.holds Try.pinned (OpenSpec.upto gomoryValidSpec)

/-- 'fretsawlaw33.GomorySolve', WHERE WHAT IT READS IS OF BULK AT MOST 1048576: true; the input reads as it did. -/
def gomorySolveUptoRow : OpenClaim := { program := "ytelfplepnodbgaa", sum := "6ed25b8bb8c37aa46f1042b6c462ef6648db04e5175b342f3df3b8da44344169", func := "fretsaw/fretsawlaw33.GomorySolve", spec := "gomorySolve", unfollowed := true, recurses := true, apart := false, narrowed := true }
def GomorySolveUptoSaid : Prop := gomorySolveUptoRow.holds Try.pinned (OpenSpec.upto gomorySolveSpec)

/-- 'fretsawlaw33.GomoryBest', WHERE WHAT IT READS IS OF BULK AT MOST 1048576: true; the input reads as it did. -/
def gomoryBestUptoRow : OpenClaim := { program := "ytelfplepnodbgaa", sum := "6ed25b8bb8c37aa46f1042b6c462ef6648db04e5175b342f3df3b8da44344169", func := "fretsaw/fretsawlaw33.GomoryBest", spec := "gomoryBest", unfollowed := true, recurses := true, apart := false, narrowed := true }
def GomoryBestUptoSaid : Prop := gomoryBestUptoRow.holds Try.pinned (OpenSpec.upto gomoryBestSpec)

/-- 'fretsawlaw33.GomoryWhole', WHERE WHAT IT READS IS OF BULK AT MOST 1048576: true; the input reads as it did. -/
def gomoryWholeUptoRow : OpenClaim := { program := "ytelfplepnodbgaa", sum := "6ed25b8bb8c37aa46f1042b6c462ef6648db04e5175b342f3df3b8da44344169", func := "fretsaw/fretsawlaw33.GomoryWhole", spec := "gomoryWhole", unfollowed := true, recurses := true, apart := false, narrowed := true }
def GomoryWholeUptoSaid : Prop := gomoryWholeUptoRow.holds Try.pinned (OpenSpec.upto gomoryWholeSpec)

/-- 'fretsawlaw30.MasterSolve', WHERE WHAT IT READS IS OF BULK AT MOST 1048576: true; the input reads as it did. -/
def masterSolveUptoRow : OpenClaim := { program := "ytelfplepnodbgaa", sum := "6ed25b8bb8c37aa46f1042b6c462ef6648db04e5175b342f3df3b8da44344169", func := "fretsaw/fretsawlaw30.MasterSolve", spec := "masterSolve", unfollowed := true, recurses := true, apart := false, narrowed := true }
def MasterSolveUptoSaid : Prop := masterSolveUptoRow.holds Try.pinned (OpenSpec.upto masterSolveSpec)

/-- 'fretsawlaw30.MasterPrices', WHERE WHAT IT READS IS OF BULK AT MOST 1048576: true; the input reads as it did. -/
def masterPricesUptoRow : OpenClaim := { program := "ytelfplepnodbgaa", sum := "6ed25b8bb8c37aa46f1042b6c462ef6648db04e5175b342f3df3b8da44344169", func := "fretsaw/fretsawlaw30.MasterPrices", spec := "masterPrices", unfollowed := true, recurses := true, apart := false, narrowed := true }
def MasterPricesUptoSaid : Prop := masterPricesUptoRow.holds Try.pinned (OpenSpec.upto masterPricesSpec)

/-- 'fretsawlaw30.MasterOrder', WHERE WHAT IT READS IS OF BULK AT MOST 1048576: true; the input reads as it did. -/
def masterOrderUptoRow : OpenClaim := { program := "ytelfplepnodbgaa", sum := "6ed25b8bb8c37aa46f1042b6c462ef6648db04e5175b342f3df3b8da44344169", func := "fretsaw/fretsawlaw30.MasterOrder", spec := "masterOrder", unfollowed := true, recurses := true, apart := false, narrowed := true }
def MasterOrderUptoSaid : Prop := masterOrderUptoRow.holds Try.pinned (OpenSpec.upto masterOrderSpec)

/-- 'fretsawlaw30.MasterStart', WHERE WHAT IT READS IS OF BULK AT MOST 1048576: true; the input reads as it did. -/
def masterStartUptoRow : OpenClaim := { program := "ytelfplepnodbgaa", sum := "6ed25b8bb8c37aa46f1042b6c462ef6648db04e5175b342f3df3b8da44344169", func := "fretsaw/fretsawlaw30.MasterStart", spec := "masterStart", unfollowed := true, recurses := true, apart := false, narrowed := true }
def MasterStartUptoSaid : Prop := masterStartUptoRow.holds Try.pinned (OpenSpec.upto masterStartSpec)

/-- 'fretsawlaw30.MasterRead', WHERE WHAT IT READS IS OF BULK AT MOST 1048576: true; the input reads as it did. -/
def masterReadUptoRow : OpenClaim := { program := "ytelfplepnodbgaa", sum := "6ed25b8bb8c37aa46f1042b6c462ef6648db04e5175b342f3df3b8da44344169", func := "fretsaw/fretsawlaw30.MasterRead", spec := "masterRead", unfollowed := true, recurses := true, apart := false, narrowed := true }
def MasterReadUptoSaid : Prop := masterReadUptoRow.holds Try.pinned (OpenSpec.upto masterReadSpec)

/-- 'fretsawlaw30.MasterWhole', WHERE WHAT IT READS IS OF BULK AT MOST 1048576: true; the input reads as it did. -/
def masterWholeUptoRow : OpenClaim := { program := "ytelfplepnodbgaa", sum := "6ed25b8bb8c37aa46f1042b6c462ef6648db04e5175b342f3df3b8da44344169", func := "fretsaw/fretsawlaw30.MasterWhole", spec := "masterWhole", unfollowed := true, recurses := true, apart := false, narrowed := true }
def MasterWholeUptoSaid : Prop := masterWholeUptoRow.holds Try.pinned (OpenSpec.upto masterWholeSpec)

end Rows
end Go.Proofs.Ytelfplepnodbgaa
