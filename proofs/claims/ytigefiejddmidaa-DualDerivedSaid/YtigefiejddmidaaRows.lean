/-
  No cell of these rows narrows 'for every input' (looked for: loops, veiled, ifaces, maps, wideKeys, modest, calm, conditions, laid).
  DERIVED. THE GIVEN ROWS OF THIS SEAT. 5 by the template 'for every input the law returns true; each argument reads behind the call as it read before'; 0 by the template 'total and deterministic' (their statements: YtigefiejddmidaaTotals.lean).
  GIVEN WITH THE SEED: the statements are not yours to turn. If you find one false, say at which input.
  Laid BY PROGRAM, IN A SANDBOX (cutbox-rows.mjs): the forced cells as the released guide's own fill.sh prints them over the translation a8184e96a51ce290… (all of the seat's roots in one cut). By AI agents, Wed Nov 11 2026. No macro, syntax, notation, axiom, sorry.
-/
import Derived.Test.YtigefiejddmidaaChecked
import GoSem.Claim
import GoSem.ClaimJoined
import GoSem.ClaimMapViews
import Derived.JoinedTies
import Derived.KernelRfl
namespace Go.Proofs.Ytigefiejddmidaa
/- THE CELL 'sum', in the pinned program and in every row, IS THE sha256 OF THE DUMP (.gsa) THAT YtigefiejddmidaaProg.lean LOADS. Nothing in Lean hashes anything: it is a label: what it is worth is what the hold of that sum in a sandbox is worth. -/
noncomputable def Try.pinned : Pinned := { name := "ytigefiejddmidaa", sum := "a8184e96a51ce290bfb5d25d90fbe4740b8bfdff1501f72f49d500b03dd90bc3", checked := Try.checked }
namespace Rows
def none {H : Type} : Left H := { results := [], args := [] }

/-- 'fretsawlaw32.DualCheck': WHATEVER THE INPUT: true; the input reads as it did. -/
def dualCheckSpec : ChangeSpec := { name := "dualCheck", fn := fun _ => fun
  | [d1, d2] => { results := [.lit (.bool true)], args := [d1, d2] }
  | _ => none }
def dualCheckRow : OpenClaim := { program := "ytigefiejddmidaa", sum := "a8184e96a51ce290bfb5d25d90fbe4740b8bfdff1501f72f49d500b03dd90bc3", func := "fretsaw/fretsawlaw32.DualCheck", spec := "dualCheck", unfollowed := true, recurses := true, apart := false }
def DualCheckSaid : Prop := dualCheckRow.holds Try.pinned (OpenSpec.ofChange dualCheckSpec)

/-- ITS FALSE NEIGHBOUR: 'it returns false'. Refute it at one input. -/
def dualCheckWrong : ChangeSpec := { name := "dualCheck", fn := fun _ => fun
  | [d1, d2] => { results := [.lit (.bool false)], args := [d1, d2] }
  | _ => none }
def DualCheckWrongFalsely : Prop := dualCheckRow.holds Try.pinned (OpenSpec.ofChange dualCheckWrong)

/-- 'fretsawlaw32.DualSound': WHATEVER THE INPUT: true; the input reads as it did. -/
def dualSoundSpec : ChangeSpec := { name := "dualSound", fn := fun _ => fun
  | [d1, d2, d3] => { results := [.lit (.bool true)], args := [d1, d2, d3] }
  | _ => none }
def dualSoundRow : OpenClaim := { program := "ytigefiejddmidaa", sum := "a8184e96a51ce290bfb5d25d90fbe4740b8bfdff1501f72f49d500b03dd90bc3", func := "fretsaw/fretsawlaw32.DualSound", spec := "dualSound", unfollowed := true, recurses := true, apart := false }
def DualSoundSaid : Prop := dualSoundRow.holds Try.pinned (OpenSpec.ofChange dualSoundSpec)

/-- ITS FALSE NEIGHBOUR: 'it returns false'. Refute it at one input. -/
def dualSoundWrong : ChangeSpec := { name := "dualSound", fn := fun _ => fun
  | [d1, d2, d3] => { results := [.lit (.bool false)], args := [d1, d2, d3] }
  | _ => none }
def DualSoundWrongFalsely : Prop := dualSoundRow.holds Try.pinned (OpenSpec.ofChange dualSoundWrong)

/-- 'fretsawlaw32.DualLess': WHATEVER THE INPUT: true; the input reads as it did. -/
def dualLessSpec : ChangeSpec := { name := "dualLess", fn := fun _ => fun
  | [d1, d2, d3] => { results := [.lit (.bool true)], args := [d1, d2, d3] }
  | _ => none }
def dualLessRow : OpenClaim := { program := "ytigefiejddmidaa", sum := "a8184e96a51ce290bfb5d25d90fbe4740b8bfdff1501f72f49d500b03dd90bc3", func := "fretsaw/fretsawlaw32.DualLess", spec := "dualLess", unfollowed := true, recurses := true, apart := false }
def DualLessSaid : Prop := dualLessRow.holds Try.pinned (OpenSpec.ofChange dualLessSpec)

/-- ITS FALSE NEIGHBOUR: 'it returns false'. Refute it at one input. -/
def dualLessWrong : ChangeSpec := { name := "dualLess", fn := fun _ => fun
  | [d1, d2, d3] => { results := [.lit (.bool false)], args := [d1, d2, d3] }
  | _ => none }
def DualLessWrongFalsely : Prop := dualLessRow.holds Try.pinned (OpenSpec.ofChange dualLessWrong)

/-- 'fretsawlaw32.DualDerive': WHATEVER THE INPUT: true; the input reads as it did. -/
def dualDeriveSpec : ChangeSpec := { name := "dualDerive", fn := fun _ => fun
  | [d1, d2, d3] => { results := [.lit (.bool true)], args := [d1, d2, d3] }
  | _ => none }
def dualDeriveRow : OpenClaim := { program := "ytigefiejddmidaa", sum := "a8184e96a51ce290bfb5d25d90fbe4740b8bfdff1501f72f49d500b03dd90bc3", func := "fretsaw/fretsawlaw32.DualDerive", spec := "dualDerive", unfollowed := true, recurses := true, apart := false }
def DualDeriveSaid : Prop := dualDeriveRow.holds Try.pinned (OpenSpec.ofChange dualDeriveSpec)

/-- ITS FALSE NEIGHBOUR: 'it returns false'. Refute it at one input. -/
def dualDeriveWrong : ChangeSpec := { name := "dualDerive", fn := fun _ => fun
  | [d1, d2, d3] => { results := [.lit (.bool false)], args := [d1, d2, d3] }
  | _ => none }
def DualDeriveWrongFalsely : Prop := dualDeriveRow.holds Try.pinned (OpenSpec.ofChange dualDeriveWrong)

/-- 'fretsawlaw32.DualDerived': WHATEVER THE INPUT: true; the input reads as it did. -/
def dualDerivedSpec : ChangeSpec := { name := "dualDerived", fn := fun _ => fun
  | [d1, d2, d3] => { results := [.lit (.bool true)], args := [d1, d2, d3] }
  | _ => none }
def dualDerivedRow : OpenClaim := { program := "ytigefiejddmidaa", sum := "a8184e96a51ce290bfb5d25d90fbe4740b8bfdff1501f72f49d500b03dd90bc3", func := "fretsaw/fretsawlaw32.DualDerived", spec := "dualDerived", unfollowed := true, recurses := true, apart := false }
def DualDerivedSaid : Prop := dualDerivedRow.holds Try.pinned (OpenSpec.ofChange dualDerivedSpec)

/-- ITS FALSE NEIGHBOUR: 'it returns false'. Refute it at one input. -/
def dualDerivedWrong : ChangeSpec := { name := "dualDerived", fn := fun _ => fun
  | [d1, d2, d3] => { results := [.lit (.bool false)], args := [d1, d2, d3] }
  | _ => none }
def DualDerivedWrongFalsely : Prop := dualDerivedRow.holds Try.pinned (OpenSpec.ofChange dualDerivedWrong)

/- THE SECOND FORM. 'bulk': how many values and letters a reading holds, each counted each time it is reached (what is shared counts as often as it is met; a slice's spare places count too). A statement '..UptoSaid' is the law's where the arguments, and the package variables that the reading takes, are together of bulk at most 1048576: NARROWER than '..Said'. Prove '..Said' where nothing that the law and all that it calls make is longer than what came in: it says more and counts as full. Else prove '..UptoSaid'. A law counts once. -/
mutual
def uptoBulk {H : Type} : DataW H → Nat
  | .lit (.string bytes) => bytes.length + 1
  | .lit _ => 1
  | .nil => 1
  | .ptr d => uptoBulk d + 1
  | .slice elems spare => uptoBulkAll elems + uptoBulkAll spare + 1
  | .agg parts => uptoBulkAll parts + 1
  | .iface _ d => uptoBulk d + 1
  | .map entries => uptoBulkEntries entries + 1
  | .held _ => 1
def uptoBulkAll {H : Type} : List (DataW H) → Nat
  | [] => 0
  | d :: r => uptoBulk d + uptoBulkAll r
def uptoBulkEntries {H : Type} : List (Lit × DataW H) → Nat
  | [] => 0
  | x :: r => uptoBulkEntry x + uptoBulkEntries r
def uptoBulkEntry {H : Type} : Lit × DataW H → Nat
  | (.string bytes, d) => bytes.length + uptoBulk d + 1
  | (_, d) => uptoBulk d + 1
 end
def uptoSmall : (H : Type) → List (DataW H) → Bool := fun _ ds => decide (uptoBulkAll ds ≤ 1048576)
def OpenSpec.upto (s : _root_.Go.ChangeSpec) : _root_.Go.OpenSpec := { _root_.Go.OpenSpec.ofChange s with cond := some uptoSmall }

/-- 'fretsawlaw32.DualCheck', WHERE WHAT IT READS IS OF BULK AT MOST 1048576: true; the input reads as it did. -/
def dualCheckUptoRow : OpenClaim := { program := "ytigefiejddmidaa", sum := "a8184e96a51ce290bfb5d25d90fbe4740b8bfdff1501f72f49d500b03dd90bc3", func := "fretsaw/fretsawlaw32.DualCheck", spec := "dualCheck", unfollowed := true, recurses := true, apart := false, narrowed := true }
def DualCheckUptoSaid : Prop := dualCheckUptoRow.holds Try.pinned (OpenSpec.upto dualCheckSpec)

/-- 'fretsawlaw32.DualSound', WHERE WHAT IT READS IS OF BULK AT MOST 1048576: true; the input reads as it did. -/
def dualSoundUptoRow : OpenClaim := { program := "ytigefiejddmidaa", sum := "a8184e96a51ce290bfb5d25d90fbe4740b8bfdff1501f72f49d500b03dd90bc3", func := "fretsaw/fretsawlaw32.DualSound", spec := "dualSound", unfollowed := true, recurses := true, apart := false, narrowed := true }
def DualSoundUptoSaid : Prop := dualSoundUptoRow.holds Try.pinned (OpenSpec.upto dualSoundSpec)

/-- 'fretsawlaw32.DualLess', WHERE WHAT IT READS IS OF BULK AT MOST 1048576: true; the input reads as it did. -/
def dualLessUptoRow : OpenClaim := { program := "ytigefiejddmidaa", sum := "a8184e96a51ce290bfb5d25d90fbe4740b8bfdff1501f72f49d500b03dd90bc3", func := "fretsaw/fretsawlaw32.DualLess", spec := "dualLess", unfollowed := true, recurses := true, apart := false, narrowed := true }
def DualLessUptoSaid : Prop := dualLessUptoRow.holds Try.pinned (OpenSpec.upto dualLessSpec)

/-- 'fretsawlaw32.DualDerive', WHERE WHAT IT READS IS OF BULK AT MOST 1048576: true; the input reads as it did. -/
def dualDeriveUptoRow : OpenClaim := { program := "ytigefiejddmidaa", sum := "a8184e96a51ce290bfb5d25d90fbe4740b8bfdff1501f72f49d500b03dd90bc3", func := "fretsaw/fretsawlaw32.DualDerive", spec := "dualDerive", unfollowed := true, recurses := true, apart := false, narrowed := true }
def DualDeriveUptoSaid : Prop := dualDeriveUptoRow.holds Try.pinned (OpenSpec.upto dualDeriveSpec)

/-- 'fretsawlaw32.DualDerived', WHERE WHAT IT READS IS OF BULK AT MOST 1048576: true; the input reads as it did. -/
def dualDerivedUptoRow : OpenClaim := { program := "ytigefiejddmidaa", sum := "a8184e96a51ce290bfb5d25d90fbe4740b8bfdff1501f72f49d500b03dd90bc3", func := "fretsaw/fretsawlaw32.DualDerived", spec := "dualDerived", unfollowed := true, recurses := true, apart := false, narrowed := true }
def DualDerivedUptoSaid : Prop := dualDerivedUptoRow.holds Try.pinned (OpenSpec.upto dualDerivedSpec)

end Rows
end Go.Proofs.Ytigefiejddmidaa
