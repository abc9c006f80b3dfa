/-
  No cell of these rows narrows 'for every input' (looked for: loops, veiled, ifaces, maps, wideKeys, modest, calm, conditions, laid).
  DERIVED. THE GIVEN ROWS OF THIS SEAT. 9 by the template 'for every input the law returns true; each argument reads behind the call as it read before'; 0 by the template 'total and deterministic' (their statements: YtakgjpmhbfieeaaTotals.lean).
  GIVEN WITH THE SEED: the statements are not yours to turn. If you find one false, say at which input.
  Laid BY PROGRAM, IN A SANDBOX (cutbox-rows.mjs): the forced cells as the released guide's own fill.sh prints them over the translation 61c78dba84bc997e… (all of the seat's roots in one cut). By AI agents, Wed Nov 11 2026. No macro, syntax, notation, axiom, sorry.
-/
import Derived.Test.YtakgjpmhbfieeaaChecked
import GoSem.Claim
import GoSem.ClaimJoined
import GoSem.ClaimMapViews
import Derived.JoinedTies
import Derived.KernelRfl
namespace Go.Proofs.Ytakgjpmhbfieeaa
/- THE CELL 'sum', in the pinned program and in every row, IS THE sha256 OF THE DUMP (.gsa) THAT YtakgjpmhbfieeaaProg.lean LOADS. Nothing in Lean hashes anything: it is a label: what it is worth is what the hold of that sum in a sandbox is worth. -/
noncomputable def Try.pinned : Pinned := { name := "ytakgjpmhbfieeaa", sum := "61c78dba84bc997e71ac829475beaad8f2212a90ed0217c6bb6557dc4c4c2e91", checked := Try.checked }
namespace Rows
def none {H : Type} : Left H := { results := [], args := [] }

/-- 'fretsawlaw29.TableauOptimal': WHATEVER THE INPUT: true; the input reads as it did. -/
def tableauOptimalSpec : ChangeSpec := { name := "tableauOptimal", fn := fun _ => fun
  | [d1, d2] => { results := [.lit (.bool true)], args := [d1, d2] }
  | _ => none }
def tableauOptimalRow : OpenClaim := { program := "ytakgjpmhbfieeaa", sum := "61c78dba84bc997e71ac829475beaad8f2212a90ed0217c6bb6557dc4c4c2e91", func := "fretsaw/fretsawlaw29.TableauOptimal", spec := "tableauOptimal", unfollowed := true, recurses := true, apart := false }
def TableauOptimalSaid : Prop := tableauOptimalRow.holds Try.pinned (OpenSpec.ofChange tableauOptimalSpec)

/-- ITS FALSE NEIGHBOUR: 'it returns false'. Refute it at one input. -/
def tableauOptimalWrong : ChangeSpec := { name := "tableauOptimal", fn := fun _ => fun
  | [d1, d2] => { results := [.lit (.bool false)], args := [d1, d2] }
  | _ => none }
def TableauOptimalWrongFalsely : Prop := tableauOptimalRow.holds Try.pinned (OpenSpec.ofChange tableauOptimalWrong)

/-- 'fretsawlaw29.TableauIdentity': WHATEVER THE INPUT: true; the input reads as it did. -/
def tableauIdentitySpec : ChangeSpec := { name := "tableauIdentity", fn := fun _ => fun
  | [d1, d2, d3] => { results := [.lit (.bool true)], args := [d1, d2, d3] }
  | _ => none }
def tableauIdentityRow : OpenClaim := { program := "ytakgjpmhbfieeaa", sum := "61c78dba84bc997e71ac829475beaad8f2212a90ed0217c6bb6557dc4c4c2e91", func := "fretsaw/fretsawlaw29.TableauIdentity", spec := "tableauIdentity", unfollowed := true, recurses := true, apart := false }
def TableauIdentitySaid : Prop := tableauIdentityRow.holds Try.pinned (OpenSpec.ofChange tableauIdentitySpec)

/-- ITS FALSE NEIGHBOUR: 'it returns false'. Refute it at one input. -/
def tableauIdentityWrong : ChangeSpec := { name := "tableauIdentity", fn := fun _ => fun
  | [d1, d2, d3] => { results := [.lit (.bool false)], args := [d1, d2, d3] }
  | _ => none }
def TableauIdentityWrongFalsely : Prop := tableauIdentityRow.holds Try.pinned (OpenSpec.ofChange tableauIdentityWrong)

/-- 'fretsawlaw29.TableauInverse': WHATEVER THE INPUT: true; the input reads as it did. -/
def tableauInverseSpec : ChangeSpec := { name := "tableauInverse", fn := fun _ => fun
  | [d1, d2] => { results := [.lit (.bool true)], args := [d1, d2] }
  | _ => none }
def tableauInverseRow : OpenClaim := { program := "ytakgjpmhbfieeaa", sum := "61c78dba84bc997e71ac829475beaad8f2212a90ed0217c6bb6557dc4c4c2e91", func := "fretsaw/fretsawlaw29.TableauInverse", spec := "tableauInverse", unfollowed := true, recurses := true, apart := false }
def TableauInverseSaid : Prop := tableauInverseRow.holds Try.pinned (OpenSpec.ofChange tableauInverseSpec)

/-- ITS FALSE NEIGHBOUR: 'it returns false'. Refute it at one input. -/
def tableauInverseWrong : ChangeSpec := { name := "tableauInverse", fn := fun _ => fun
  | [d1, d2] => { results := [.lit (.bool false)], args := [d1, d2] }
  | _ => none }
def TableauInverseWrongFalsely : Prop := tableauInverseRow.holds Try.pinned (OpenSpec.ofChange tableauInverseWrong)

/-- 'fretsawlaw29.TableauRows': WHATEVER THE INPUT: true; the input reads as it did. -/
def tableauRowsSpec : ChangeSpec := { name := "tableauRows", fn := fun _ => fun
  | [d1, d2, d3] => { results := [.lit (.bool true)], args := [d1, d2, d3] }
  | _ => none }
def tableauRowsRow : OpenClaim := { program := "ytakgjpmhbfieeaa", sum := "61c78dba84bc997e71ac829475beaad8f2212a90ed0217c6bb6557dc4c4c2e91", func := "fretsaw/fretsawlaw29.TableauRows", spec := "tableauRows", unfollowed := true, recurses := true, apart := false }
def TableauRowsSaid : Prop := tableauRowsRow.holds Try.pinned (OpenSpec.ofChange tableauRowsSpec)

/-- ITS FALSE NEIGHBOUR: 'it returns false'. Refute it at one input. -/
def tableauRowsWrong : ChangeSpec := { name := "tableauRows", fn := fun _ => fun
  | [d1, d2, d3] => { results := [.lit (.bool false)], args := [d1, d2, d3] }
  | _ => none }
def TableauRowsWrongFalsely : Prop := tableauRowsRow.holds Try.pinned (OpenSpec.ofChange tableauRowsWrong)

/-- 'fretsawlaw29.TableauPrices': WHATEVER THE INPUT: true; the input reads as it did. -/
def tableauPricesSpec : ChangeSpec := { name := "tableauPrices", fn := fun _ => fun
  | [d1, d2] => { results := [.lit (.bool true)], args := [d1, d2] }
  | _ => none }
def tableauPricesRow : OpenClaim := { program := "ytakgjpmhbfieeaa", sum := "61c78dba84bc997e71ac829475beaad8f2212a90ed0217c6bb6557dc4c4c2e91", func := "fretsaw/fretsawlaw29.TableauPrices", spec := "tableauPrices", unfollowed := true, recurses := true, apart := false }
def TableauPricesSaid : Prop := tableauPricesRow.holds Try.pinned (OpenSpec.ofChange tableauPricesSpec)

/-- ITS FALSE NEIGHBOUR: 'it returns false'. Refute it at one input. -/
def tableauPricesWrong : ChangeSpec := { name := "tableauPrices", fn := fun _ => fun
  | [d1, d2] => { results := [.lit (.bool false)], args := [d1, d2] }
  | _ => none }
def TableauPricesWrongFalsely : Prop := tableauPricesRow.holds Try.pinned (OpenSpec.ofChange tableauPricesWrong)

/-- 'fretsawlaw29.TableauStep': WHATEVER THE INPUT: true; the input reads as it did. -/
def tableauStepSpec : ChangeSpec := { name := "tableauStep", fn := fun _ => fun
  | [d1, d2] => { results := [.lit (.bool true)], args := [d1, d2] }
  | _ => none }
def tableauStepRow : OpenClaim := { program := "ytakgjpmhbfieeaa", sum := "61c78dba84bc997e71ac829475beaad8f2212a90ed0217c6bb6557dc4c4c2e91", func := "fretsaw/fretsawlaw29.TableauStep", spec := "tableauStep", unfollowed := true, recurses := true, apart := false }
def TableauStepSaid : Prop := tableauStepRow.holds Try.pinned (OpenSpec.ofChange tableauStepSpec)

/-- ITS FALSE NEIGHBOUR: 'it returns false'. Refute it at one input. -/
def tableauStepWrong : ChangeSpec := { name := "tableauStep", fn := fun _ => fun
  | [d1, d2] => { results := [.lit (.bool false)], args := [d1, d2] }
  | _ => none }
def TableauStepWrongFalsely : Prop := tableauStepRow.holds Try.pinned (OpenSpec.ofChange tableauStepWrong)

/-- 'fretsawlaw29.TableauProof': WHATEVER THE INPUT: true; the input reads as it did. -/
def tableauProofSpec : ChangeSpec := { name := "tableauProof", fn := fun _ => fun
  | [d1, d2, d3] => { results := [.lit (.bool true)], args := [d1, d2, d3] }
  | _ => none }
def tableauProofRow : OpenClaim := { program := "ytakgjpmhbfieeaa", sum := "61c78dba84bc997e71ac829475beaad8f2212a90ed0217c6bb6557dc4c4c2e91", func := "fretsaw/fretsawlaw29.TableauProof", spec := "tableauProof", unfollowed := true, recurses := true, apart := false }
def TableauProofSaid : Prop := tableauProofRow.holds Try.pinned (OpenSpec.ofChange tableauProofSpec)

/-- ITS FALSE NEIGHBOUR: 'it returns false'. Refute it at one input. -/
def tableauProofWrong : ChangeSpec := { name := "tableauProof", fn := fun _ => fun
  | [d1, d2, d3] => { results := [.lit (.bool false)], args := [d1, d2, d3] }
  | _ => none }
def TableauProofWrongFalsely : Prop := tableauProofRow.holds Try.pinned (OpenSpec.ofChange tableauProofWrong)

/-- 'fretsawlaw29.TableauSolve': WHATEVER THE INPUT: true; the input reads as it did. -/
def tableauSolveSpec : ChangeSpec := { name := "tableauSolve", fn := fun _ => fun
  | [d] => { results := [.lit (.bool true)], args := [d] }
  | _ => none }
def tableauSolveRow : OpenClaim := { program := "ytakgjpmhbfieeaa", sum := "61c78dba84bc997e71ac829475beaad8f2212a90ed0217c6bb6557dc4c4c2e91", func := "fretsaw/fretsawlaw29.TableauSolve", spec := "tableauSolve", unfollowed := true, recurses := true, apart := false }
def TableauSolveSaid : Prop := tableauSolveRow.holds Try.pinned (OpenSpec.ofChange tableauSolveSpec)

/-- ITS FALSE NEIGHBOUR: 'it returns false'. Refute it at one input. -/
def tableauSolveWrong : ChangeSpec := { name := "tableauSolve", fn := fun _ => fun
  | [d] => { results := [.lit (.bool false)], args := [d] }
  | _ => none }
def TableauSolveWrongFalsely : Prop := tableauSolveRow.holds Try.pinned (OpenSpec.ofChange tableauSolveWrong)

/-- 'fretsawlaw29.TableauRefuted': WHATEVER THE INPUT: true; the input reads as it did. -/
def tableauRefutedSpec : ChangeSpec := { name := "tableauRefuted", fn := fun _ => fun
  | [d1, d2] => { results := [.lit (.bool true)], args := [d1, d2] }
  | _ => none }
def tableauRefutedRow : OpenClaim := { program := "ytakgjpmhbfieeaa", sum := "61c78dba84bc997e71ac829475beaad8f2212a90ed0217c6bb6557dc4c4c2e91", func := "fretsaw/fretsawlaw29.TableauRefuted", spec := "tableauRefuted", unfollowed := true, recurses := true, apart := false }
def TableauRefutedSaid : Prop := tableauRefutedRow.holds Try.pinned (OpenSpec.ofChange tableauRefutedSpec)

/-- ITS FALSE NEIGHBOUR: 'it returns false'. Refute it at one input. -/
def tableauRefutedWrong : ChangeSpec := { name := "tableauRefuted", fn := fun _ => fun
  | [d1, d2] => { results := [.lit (.bool false)], args := [d1, d2] }
  | _ => none }
def TableauRefutedWrongFalsely : Prop := tableauRefutedRow.holds Try.pinned (OpenSpec.ofChange tableauRefutedWrong)

/- THE SECOND FORM. 'bulk': how many values and letters a reading holds, each counted each time it is reached (what is shared counts as often as it is met; a slice's spare places count too). A statement '..UptoSaid' is the law's where the arguments, and the package variables that the reading takes, are together of bulk at most 1048576: NARROWER than '..Said'. Prove '..Said' where nothing that the law and all that it calls make is longer than what came in: it says more and counts as full. Else prove '..UptoSaid'. A law counts once. -/
mutual
def uptoBulk {H : Type} : DataW H → Nat
  | .lit (.string bytes) => bytes.length + 1
  | .lit _ => 1
  | .nil => 1
  | .ptr d => uptoBulk d + 1
  | .slice elems spare => uptoBulkAll elems + uptoBulkAll spare + 1
  | .agg parts => uptoBulkAll parts + 1
  | .iface _ d => uptoBulk d + 1
  | .map entries => uptoBulkEntries entries + 1
  | .held _ => 1
def uptoBulkAll {H : Type} : List (DataW H) → Nat
  | [] => 0
  | d :: r => uptoBulk d + uptoBulkAll r
def uptoBulkEntries {H : Type} : List (Lit × DataW H) → Nat
  | [] => 0
  | x :: r => uptoBulkEntry x + uptoBulkEntries r
def uptoBulkEntry {H : Type} : Lit × DataW H → Nat
  | (.string bytes, d) => bytes.length + uptoBulk d + 1
  | (_, d) => uptoBulk d + 1
 end
def uptoSmall : (H : Type) → List (DataW H) → Bool := fun _ ds => decide (uptoBulkAll ds ≤ 1048576)
def OpenSpec.upto (s : _root_.Go.ChangeSpec) : _root_.Go.OpenSpec := { _root_.Go.OpenSpec.ofChange s with cond := some uptoSmall }

/-- 'fretsawlaw29.TableauOptimal', WHERE WHAT IT READS IS OF BULK AT MOST 1048576: true; the input reads as it did. -/
def tableauOptimalUptoRow : OpenClaim := { program := "ytakgjpmhbfieeaa", sum := "61c78dba84bc997e71ac829475beaad8f2212a90ed0217c6bb6557dc4c4c2e91", func := "fretsaw/fretsawlaw29.TableauOptimal", spec := "tableauOptimal", unfollowed := true, recurses := true, apart := false, narrowed := true }
def TableauOptimalUptoSaid : Prop := tableauOptimalUptoRow.holds Try.pinned (OpenSpec.upto tableauOptimalSpec)

/-- 'fretsawlaw29.TableauIdentity', WHERE WHAT IT READS IS OF BULK AT MOST 1048576: true; the input reads as it did. -/
def tableauIdentityUptoRow : OpenClaim := { program := "ytakgjpmhbfieeaa", sum := "61c78dba84bc997e71ac829475beaad8f2212a90ed0217c6bb6557dc4c4c2e91", func := "fretsaw/fretsawlaw29.TableauIdentity", spec := "tableauIdentity", unfollowed := true, recurses := true, apart := false, narrowed := true }
def TableauIdentityUptoSaid : Prop := tableauIdentityUptoRow.holds Try.pinned (OpenSpec.upto tableauIdentitySpec)

/-- 'fretsawlaw29.TableauInverse', WHERE WHAT IT READS IS OF BULK AT MOST 1048576: true; the input reads as it did. -/
def tableauInverseUptoRow : OpenClaim := { program := "ytakgjpmhbfieeaa", sum := "61c78dba84bc997e71ac829475beaad8f2212a90ed0217c6bb6557dc4c4c2e91", func := "fretsaw/fretsawlaw29.TableauInverse", spec := "tableauInverse", unfollowed := true, recurses := true, apart := false, narrowed := true }
def TableauInverseUptoSaid : Prop := tableauInverseUptoRow.holds Try.pinned (OpenSpec.upto tableauInverseSpec)

/-- 'fretsawlaw29.TableauRows', WHERE WHAT IT READS IS OF BULK AT MOST 1048576: true; the input reads as it did. -/
def tableauRowsUptoRow : OpenClaim := { program := "ytakgjpmhbfieeaa", sum := "61c78dba84bc997e71ac829475beaad8f2212a90ed0217c6bb6557dc4c4c2e91", func := "fretsaw/fretsawlaw29.TableauRows", spec := "tableauRows", unfollowed := true, recurses := true, apart := false, narrowed := true }
def TableauRowsUptoSaid : Prop := tableauRowsUptoRow.holds Try.pinned (OpenSpec.upto tableauRowsSpec)

/-- 'fretsawlaw29.TableauPrices', WHERE WHAT IT READS IS OF BULK AT MOST 1048576: true; the input reads as it did. -/
def tableauPricesUptoRow : OpenClaim := { program := "ytakgjpmhbfieeaa", sum := "61c78dba84bc997e71ac829475beaad8f2212a90ed0217c6bb6557dc4c4c2e91", func := "fretsaw/fretsawlaw29.TableauPrices", spec := "tableauPrices", unfollowed := true, recurses := true, apart := false, narrowed := true }
def TableauPricesUptoSaid : Prop := tableauPricesUptoRow.holds Try.pinned (OpenSpec.upto tableauPricesSpec)

/-- 'fretsawlaw29.TableauStep', WHERE WHAT IT READS IS OF BULK AT MOST 1048576: true; the input reads as it did. -/
def tableauStepUptoRow : OpenClaim := { program := "ytakgjpmhbfieeaa", sum := "61c78dba84bc997e71ac829475beaad8f2212a90ed0217c6bb6557dc4c4c2e91", func := "fretsaw/fretsawlaw29.TableauStep", spec := "tableauStep", unfollowed := true, recurses := true, apart := false, narrowed := true }
def TableauStepUptoSaid : Prop := tableauStepUptoRow.holds Try.pinned (OpenSpec.upto tableauStepSpec)

/-- 'fretsawlaw29.TableauProof', WHERE WHAT IT READS IS OF BULK AT MOST 1048576: true; the input reads as it did. -/
def tableauProofUptoRow : OpenClaim := { program := "ytakgjpmhbfieeaa", sum := "61c78dba84bc997e71ac829475beaad8f2212a90ed0217c6bb6557dc4c4c2e91", func := "fretsaw/fretsawlaw29.TableauProof", spec := "tableauProof", unfollowed := true, recurses := true, apart := false, narrowed := true }
def TableauProofUptoSaid : Prop := tableauProofUptoRow.holds Try.pinned (OpenSpec.upto tableauProofSpec)

/-- 'fretsawlaw29.TableauSolve', WHERE WHAT IT READS IS OF BULK AT MOST 1048576: true; the input reads as it did. -/
def tableauSolveUptoRow : OpenClaim := { program := "ytakgjpmhbfieeaa", sum := "61c78dba84bc997e71ac829475beaad8f2212a90ed0217c6bb6557dc4c4c2e91", func := "fretsaw/fretsawlaw29.TableauSolve", spec := "tableauSolve", unfollowed := true, recurses := true, apart := false, narrowed := true }
def TableauSolveUptoSaid : Prop := tableauSolveUptoRow.holds Try.pinned (OpenSpec.upto tableauSolveSpec)

/-- 'fretsawlaw29.TableauRefuted', WHERE WHAT IT READS IS OF BULK AT MOST 1048576: true; the input reads as it did. -/
def tableauRefutedUptoRow : OpenClaim := { program := "ytakgjpmhbfieeaa", sum := "61c78dba84bc997e71ac829475beaad8f2212a90ed0217c6bb6557dc4c4c2e91", func := "fretsaw/fretsawlaw29.TableauRefuted", spec := "tableauRefuted", unfollowed := true, recurses := true, apart := false, narrowed := true }
def TableauRefutedUptoSaid : Prop := tableauRefutedUptoRow.holds Try.pinned (OpenSpec.upto tableauRefutedSpec)

end Rows
end Go.Proofs.Ytakgjpmhbfieeaa
