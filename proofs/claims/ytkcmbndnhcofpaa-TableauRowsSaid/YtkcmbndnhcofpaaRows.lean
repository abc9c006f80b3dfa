/-
  No cell of these rows narrows 'for every input' (looked for: loops, veiled, ifaces, maps, wideKeys, modest, calm, conditions, laid).
  DERIVED. THE GIVEN ROWS OF THIS SEAT. 2 by the template 'for every input the law returns true; each argument reads behind the call as it read before'; 0 by the template 'total and deterministic' (their statements: YtkcmbndnhcofpaaTotals.lean).
  GIVEN WITH THE SEED: the statements are not yours to turn. If you find one false, say at which input.
  Laid BY PROGRAM, IN A SANDBOX (cutbox-rows.mjs): the forced cells as the released guide's own fill.sh prints them over the translation fbc9e68a9672202d… (all of the seat's roots in one cut). By AI agents, Wed Nov 11 2026. No macro, syntax, notation, axiom, sorry.
-/
import Derived.Test.YtkcmbndnhcofpaaChecked
import GoSem.Claim
import GoSem.ClaimJoined
import GoSem.ClaimMapViews
import Derived.JoinedTies
import Derived.KernelRfl
namespace Go.Proofs.Ytkcmbndnhcofpaa
/- THE CELL 'sum', in the pinned program and in every row, IS THE sha256 OF THE DUMP (.gsa) THAT YtkcmbndnhcofpaaProg.lean LOADS. Nothing in Lean hashes anything: it is a label: what it is worth is what the hold of that sum in a sandbox is worth. -/
noncomputable def Try.pinned : Pinned := { name := "ytkcmbndnhcofpaa", sum := "fbc9e68a9672202de1ee413312267a75f76b6424d01b51d036baf8092b2652fe", checked := Try.checked }
namespace Rows
def none {H : Type} : Left H := { results := [], args := [] }

/-- 'fretsawlaw29.TableauIdentity': WHATEVER THE INPUT: true; the input reads as it did. -/
def tableauIdentitySpec : ChangeSpec := { name := "tableauIdentity", fn := fun _ => fun
  | [d1, d2, d3] => { results := [.lit (.bool true)], args := [d1, d2, d3] }
  | _ => none }
def tableauIdentityRow : OpenClaim := { program := "ytkcmbndnhcofpaa", sum := "fbc9e68a9672202de1ee413312267a75f76b6424d01b51d036baf8092b2652fe", func := "fretsaw/fretsawlaw29.TableauIdentity", spec := "tableauIdentity", unfollowed := true, recurses := true, apart := false }
def TableauIdentitySaid : Prop := tableauIdentityRow.holds Try.pinned (OpenSpec.ofChange tableauIdentitySpec)

/-- ITS FALSE NEIGHBOUR: 'it returns false'. Refute it at one input. -/
def tableauIdentityWrong : ChangeSpec := { name := "tableauIdentity", fn := fun _ => fun
  | [d1, d2, d3] => { results := [.lit (.bool false)], args := [d1, d2, d3] }
  | _ => none }
def TableauIdentityWrongFalsely : Prop := tableauIdentityRow.holds Try.pinned (OpenSpec.ofChange tableauIdentityWrong)

/-- 'fretsawlaw29.TableauRows': WHATEVER THE INPUT: true; the input reads as it did. -/
def tableauRowsSpec : ChangeSpec := { name := "tableauRows", fn := fun _ => fun
  | [d1, d2, d3] => { results := [.lit (.bool true)], args := [d1, d2, d3] }
  | _ => none }
def tableauRowsRow : OpenClaim := { program := "ytkcmbndnhcofpaa", sum := "fbc9e68a9672202de1ee413312267a75f76b6424d01b51d036baf8092b2652fe", func := "fretsaw/fretsawlaw29.TableauRows", spec := "tableauRows", unfollowed := true, recurses := true, apart := false }
def TableauRowsSaid : Prop := tableauRowsRow.holds Try.pinned (OpenSpec.ofChange tableauRowsSpec)

/-- ITS FALSE NEIGHBOUR: 'it returns false'. Refute it at one input. -/
def tableauRowsWrong : ChangeSpec := { name := "tableauRows", fn := fun _ => fun
  | [d1, d2, d3] => { results := [.lit (.bool false)], args := [d1, d2, d3] }
  | _ => none }
def TableauRowsWrongFalsely : Prop := tableauRowsRow.holds Try.pinned (OpenSpec.ofChange tableauRowsWrong)

/- THE SECOND FORM. 'bulk': how many values and letters a reading holds, each counted each time it is reached (what is shared counts as often as it is met; a slice's spare places count too). A statement '..UptoSaid' is the law's where the arguments, and the package variables that the reading takes, are together of bulk at most 1048576: NARROWER than '..Said'. Prove '..Said' where nothing that the law and all that it calls make is longer than what came in: it says more and counts as full. Else prove '..UptoSaid'. A law counts once. -/
mutual
def uptoBulk {H : Type} : DataW H → Nat
  | .lit (.string bytes) => bytes.length + 1
  | .lit _ => 1
  | .nil => 1
  | .ptr d => uptoBulk d + 1
  | .slice elems spare => uptoBulkAll elems + uptoBulkAll spare + 1
  | .agg parts => uptoBulkAll parts + 1
  | .iface _ d => uptoBulk d + 1
  | .map entries => uptoBulkEntries entries + 1
  | .held _ => 1
def uptoBulkAll {H : Type} : List (DataW H) → Nat
  | [] => 0
  | d :: r => uptoBulk d + uptoBulkAll r
def uptoBulkEntries {H : Type} : List (Lit × DataW H) → Nat
  | [] => 0
  | x :: r => uptoBulkEntry x + uptoBulkEntries r
def uptoBulkEntry {H : Type} : Lit × DataW H → Nat
  | (.string bytes, d) => bytes.length + uptoBulk d + 1
  | (_, d) => uptoBulk d + 1
 end
def uptoSmall : (H : Type) → List (DataW H) → Bool := fun _ ds => decide (uptoBulkAll ds ≤ 1048576)
def OpenSpec.upto (s : _root_.Go.ChangeSpec) : _root_.Go.OpenSpec := { _root_.Go.OpenSpec.ofChange s with cond := some uptoSmall }

/-- 'fretsawlaw29.TableauIdentity', WHERE WHAT IT READS IS OF BULK AT MOST 1048576: true; the input reads as it did. -/
def tableauIdentityUptoRow : OpenClaim := { program := "ytkcmbndnhcofpaa", sum := "fbc9e68a9672202de1ee413312267a75f76b6424d01b51d036baf8092b2652fe", func := "fretsaw/fretsawlaw29.TableauIdentity", spec := "tableauIdentity", unfollowed := true, recurses := true, apart := false, narrowed := true }
def TableauIdentityUptoSaid : Prop := tableauIdentityUptoRow.holds Try.pinned (OpenSpec.upto tableauIdentitySpec)

/-- 'fretsawlaw29.TableauRows', WHERE WHAT IT READS IS OF BULK AT MOST 1048576: true; the input reads as it did. -/
def tableauRowsUptoRow : OpenClaim := { program := "ytkcmbndnhcofpaa", sum := "fbc9e68a9672202de1ee413312267a75f76b6424d01b51d036baf8092b2652fe", func := "fretsaw/fretsawlaw29.TableauRows", spec := "tableauRows", unfollowed := true, recurses := true, apart := false, narrowed := true }
def TableauRowsUptoSaid : Prop := tableauRowsUptoRow.holds Try.pinned (OpenSpec.upto tableauRowsSpec)

end Rows
end Go.Proofs.Ytkcmbndnhcofpaa
