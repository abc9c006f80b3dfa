/-
  NARROWER THAN 'FOR EVERY INPUT', by the rows' own cells (each row's printed sentence says how): PriceCheck: loops · PriceSound: loops.
  DERIVED. THE GIVEN ROWS OF THIS SEAT. 8 by the template 'for every input the law returns true; each argument reads behind the call as it read before'; 0 by the template 'total and deterministic' (their statements: YtkichmnjjblodaaGreatTotals.lean).
  GIVEN WITH THE SEED: the statements are not yours to turn. If you find one false, say at which input.
  Laid BY PROGRAM, IN A SANDBOX (cutbox-rows.mjs): the forced cells as the released guide's own fill.sh prints them over the translation ef5db2084b260f24… (all of the seat's roots in one cut). By AI agents, Wed Nov 11 2026. No macro, syntax, notation, axiom, sorry.
-/
import Derived.Test.YtkichmnjjblodaaGreatChecked
import GoSem.Claim
import GoSem.ClaimJoined
import GoSem.ClaimMapViews
import Derived.JoinedTies
import Derived.KernelRfl
namespace Go.Proofs.YtkichmnjjblodaaGreat
/- THE CELL 'sum', in the pinned program and in every row, IS THE sha256 OF THE DUMP (.gsa) THAT YtkichmnjjblodaaGreatProg.lean LOADS. Nothing in Lean hashes anything: it is a label: what it is worth is what the hold of that sum in a sandbox is worth. -/
noncomputable def Tryz.pinned : Pinned := { name := "ytkichmnjjblodaagreat", sum := "ef5db2084b260f244a731c5db0f7c96c4152d2c530ab3219e9dad8f2e1828fdd", checked := Tryz.checked }
namespace Rows
def none {H : Type} : Left H := { results := [], args := [] }

/-- 'fretsawlaw36.PriceParts': WHATEVER THE INPUT: true; the input reads as it did. -/
def pricePartsSpec : ChangeSpec := { name := "priceParts", fn := fun _ => fun
  | [d1, d2, d3] => { results := [.lit (.bool true)], args := [d1, d2, d3] }
  | _ => none }
def pricePartsRow : OpenClaim := { program := "ytkichmnjjblodaagreat", sum := "ef5db2084b260f244a731c5db0f7c96c4152d2c530ab3219e9dad8f2e1828fdd", func := "fretsaw/fretsawlaw36.PriceParts", spec := "priceParts", unfollowed := true, recurses := true, apart := false }
def PricePartsSaid : Prop := pricePartsRow.holds Tryz.pinned (OpenSpec.ofChange pricePartsSpec)

/-- ITS FALSE NEIGHBOUR: 'it returns false'. Refute it at one input. -/
def pricePartsWrong : ChangeSpec := { name := "priceParts", fn := fun _ => fun
  | [d1, d2, d3] => { results := [.lit (.bool false)], args := [d1, d2, d3] }
  | _ => none }
def PricePartsWrongFalsely : Prop := pricePartsRow.holds Tryz.pinned (OpenSpec.ofChange pricePartsWrong)

/-- 'fretsawlaw36.PriceCheck': WHATEVER THE INPUT: true; the input reads as it did. -/
def priceCheckSpec : ChangeSpec := { name := "priceCheck", fn := fun _ => fun
  | [d1, d2, d3] => { results := [.lit (.bool true)], args := [d1, d2, d3] }
  | _ => none }
def priceCheckRow : OpenClaim := { program := "ytkichmnjjblodaagreat", sum := "ef5db2084b260f244a731c5db0f7c96c4152d2c530ab3219e9dad8f2e1828fdd", func := "fretsaw/fretsawlaw36.PriceCheck", spec := "priceCheck", unfollowed := true, recurses := true, loops := true, apart := false }
def PriceCheckSaid : Prop := priceCheckRow.holds Tryz.pinned (OpenSpec.ofChange priceCheckSpec)

/-- ITS FALSE NEIGHBOUR: 'it returns false'. Refute it at one input. -/
def priceCheckWrong : ChangeSpec := { name := "priceCheck", fn := fun _ => fun
  | [d1, d2, d3] => { results := [.lit (.bool false)], args := [d1, d2, d3] }
  | _ => none }
def PriceCheckWrongFalsely : Prop := priceCheckRow.holds Tryz.pinned (OpenSpec.ofChange priceCheckWrong)

/-- 'fretsawlaw36.PriceLeast': WHATEVER THE INPUT: true; the input reads as it did. -/
def priceLeastSpec : ChangeSpec := { name := "priceLeast", fn := fun _ => fun
  | [d] => { results := [.lit (.bool true)], args := [d] }
  | _ => none }
def priceLeastRow : OpenClaim := { program := "ytkichmnjjblodaagreat", sum := "ef5db2084b260f244a731c5db0f7c96c4152d2c530ab3219e9dad8f2e1828fdd", func := "fretsaw/fretsawlaw36.PriceLeast", spec := "priceLeast", unfollowed := true, recurses := true, apart := false }
def PriceLeastSaid : Prop := priceLeastRow.holds Tryz.pinned (OpenSpec.ofChange priceLeastSpec)

/-- ITS FALSE NEIGHBOUR: 'it returns false'. Refute it at one input. -/
def priceLeastWrong : ChangeSpec := { name := "priceLeast", fn := fun _ => fun
  | [d] => { results := [.lit (.bool false)], args := [d] }
  | _ => none }
def PriceLeastWrongFalsely : Prop := priceLeastRow.holds Tryz.pinned (OpenSpec.ofChange priceLeastWrong)

/-- 'fretsawlaw36.PriceRight': WHATEVER THE INPUT: true; the input reads as it did. -/
def priceRightSpec : ChangeSpec := { name := "priceRight", fn := fun _ => fun
  | [d1, d2] => { results := [.lit (.bool true)], args := [d1, d2] }
  | _ => none }
def priceRightRow : OpenClaim := { program := "ytkichmnjjblodaagreat", sum := "ef5db2084b260f244a731c5db0f7c96c4152d2c530ab3219e9dad8f2e1828fdd", func := "fretsaw/fretsawlaw36.PriceRight", spec := "priceRight", unfollowed := true, recurses := true, apart := false }
def PriceRightSaid : Prop := priceRightRow.holds Tryz.pinned (OpenSpec.ofChange priceRightSpec)

/-- ITS FALSE NEIGHBOUR: 'it returns false'. Refute it at one input. -/
def priceRightWrong : ChangeSpec := { name := "priceRight", fn := fun _ => fun
  | [d1, d2] => { results := [.lit (.bool false)], args := [d1, d2] }
  | _ => none }
def PriceRightWrongFalsely : Prop := priceRightRow.holds Tryz.pinned (OpenSpec.ofChange priceRightWrong)

/-- 'fretsawlaw36.PriceSound': WHATEVER THE INPUT: true; the input reads as it did. -/
def priceSoundSpec : ChangeSpec := { name := "priceSound", fn := fun _ => fun
  | [d1, d2, d3] => { results := [.lit (.bool true)], args := [d1, d2, d3] }
  | _ => none }
def priceSoundRow : OpenClaim := { program := "ytkichmnjjblodaagreat", sum := "ef5db2084b260f244a731c5db0f7c96c4152d2c530ab3219e9dad8f2e1828fdd", func := "fretsaw/fretsawlaw36.PriceSound", spec := "priceSound", unfollowed := true, recurses := true, loops := true, apart := false }
def PriceSoundSaid : Prop := priceSoundRow.holds Tryz.pinned (OpenSpec.ofChange priceSoundSpec)

/-- ITS FALSE NEIGHBOUR: 'it returns false'. Refute it at one input. -/
def priceSoundWrong : ChangeSpec := { name := "priceSound", fn := fun _ => fun
  | [d1, d2, d3] => { results := [.lit (.bool false)], args := [d1, d2, d3] }
  | _ => none }
def PriceSoundWrongFalsely : Prop := priceSoundRow.holds Tryz.pinned (OpenSpec.ofChange priceSoundWrong)

/-- 'fretsawlaw36.PriceRefute': WHATEVER THE INPUT: true; the input reads as it did. -/
def priceRefuteSpec : ChangeSpec := { name := "priceRefute", fn := fun _ => fun
  | [d] => { results := [.lit (.bool true)], args := [d] }
  | _ => none }
def priceRefuteRow : OpenClaim := { program := "ytkichmnjjblodaagreat", sum := "ef5db2084b260f244a731c5db0f7c96c4152d2c530ab3219e9dad8f2e1828fdd", func := "fretsaw/fretsawlaw36.PriceRefute", spec := "priceRefute", unfollowed := true, recurses := true, apart := false }
def PriceRefuteSaid : Prop := priceRefuteRow.holds Tryz.pinned (OpenSpec.ofChange priceRefuteSpec)

/-- ITS FALSE NEIGHBOUR: 'it returns false'. Refute it at one input. -/
def priceRefuteWrong : ChangeSpec := { name := "priceRefute", fn := fun _ => fun
  | [d] => { results := [.lit (.bool false)], args := [d] }
  | _ => none }
def PriceRefuteWrongFalsely : Prop := priceRefuteRow.holds Tryz.pinned (OpenSpec.ofChange priceRefuteWrong)

/-- 'fretsawlaw36.PriceMonotone': WHATEVER THE INPUT: true; the input reads as it did. -/
def priceMonotoneSpec : ChangeSpec := { name := "priceMonotone", fn := fun _ => fun
  | [d1, d2, d3] => { results := [.lit (.bool true)], args := [d1, d2, d3] }
  | _ => none }
def priceMonotoneRow : OpenClaim := { program := "ytkichmnjjblodaagreat", sum := "ef5db2084b260f244a731c5db0f7c96c4152d2c530ab3219e9dad8f2e1828fdd", func := "fretsaw/fretsawlaw36.PriceMonotone", spec := "priceMonotone", unfollowed := true, recurses := true, apart := false }
def PriceMonotoneSaid : Prop := priceMonotoneRow.holds Tryz.pinned (OpenSpec.ofChange priceMonotoneSpec)

/-- ITS FALSE NEIGHBOUR: 'it returns false'. Refute it at one input. -/
def priceMonotoneWrong : ChangeSpec := { name := "priceMonotone", fn := fun _ => fun
  | [d1, d2, d3] => { results := [.lit (.bool false)], args := [d1, d2, d3] }
  | _ => none }
def PriceMonotoneWrongFalsely : Prop := priceMonotoneRow.holds Tryz.pinned (OpenSpec.ofChange priceMonotoneWrong)

/-- 'fretsawlaw36.PriceBound': WHATEVER THE INPUT: true; the input reads as it did. -/
def priceBoundSpec : ChangeSpec := { name := "priceBound", fn := fun _ => fun
  | [d] => { results := [.lit (.bool true)], args := [d] }
  | _ => none }
def priceBoundRow : OpenClaim := { program := "ytkichmnjjblodaagreat", sum := "ef5db2084b260f244a731c5db0f7c96c4152d2c530ab3219e9dad8f2e1828fdd", func := "fretsaw/fretsawlaw36.PriceBound", spec := "priceBound", unfollowed := true, recurses := true, apart := false }
def PriceBoundSaid : Prop := priceBoundRow.holds Tryz.pinned (OpenSpec.ofChange priceBoundSpec)

/-- ITS FALSE NEIGHBOUR: 'it returns false'. Refute it at one input. -/
def priceBoundWrong : ChangeSpec := { name := "priceBound", fn := fun _ => fun
  | [d] => { results := [.lit (.bool false)], args := [d] }
  | _ => none }
def PriceBoundWrongFalsely : Prop := priceBoundRow.holds Tryz.pinned (OpenSpec.ofChange priceBoundWrong)

/- THE SECOND FORM. 'bulk': how many values and letters a reading holds, each counted each time it is reached (what is shared counts as often as it is met; a slice's spare places count too). A statement '..UptoSaid' is the law's where the arguments, and the package variables that the reading takes, are together of bulk at most 1048576: NARROWER than '..Said'. Prove '..Said' where nothing that the law and all that it calls make is longer than what came in: it says more and counts as full. Else prove '..UptoSaid'. A law counts once. -/
mutual
def uptoBulk {H : Type} : DataW H → Nat
  | .lit (.string bytes) => bytes.length + 1
  | .lit _ => 1
  | .nil => 1
  | .ptr d => uptoBulk d + 1
  | .slice elems spare => uptoBulkAll elems + uptoBulkAll spare + 1
  | .agg parts => uptoBulkAll parts + 1
  | .iface _ d => uptoBulk d + 1
  | .map entries => uptoBulkEntries entries + 1
  | .held _ => 1
def uptoBulkAll {H : Type} : List (DataW H) → Nat
  | [] => 0
  | d :: r => uptoBulk d + uptoBulkAll r
def uptoBulkEntries {H : Type} : List (Lit × DataW H) → Nat
  | [] => 0
  | x :: r => uptoBulkEntry x + uptoBulkEntries r
def uptoBulkEntry {H : Type} : Lit × DataW H → Nat
  | (.string bytes, d) => bytes.length + uptoBulk d + 1
  | (_, d) => uptoBulk d + 1
 end
def uptoSmall : (H : Type) → List (DataW H) → Bool := fun _ ds => decide (uptoBulkAll ds ≤ 1048576)
def OpenSpec.upto (s : _root_.Go.ChangeSpec) : _root_.Go.OpenSpec := { _root_.Go.OpenSpec.ofChange s with cond := some uptoSmall }

/-- 'fretsawlaw36.PriceParts', WHERE WHAT IT READS IS OF BULK AT MOST 1048576: true; the input reads as it did. -/
def pricePartsUptoRow : OpenClaim := { program := "ytkichmnjjblodaagreat", sum := "ef5db2084b260f244a731c5db0f7c96c4152d2c530ab3219e9dad8f2e1828fdd", func := "fretsaw/fretsawlaw36.PriceParts", spec := "priceParts", unfollowed := true, recurses := true, apart := false, narrowed := true }
def PricePartsUptoSaid : Prop := pricePartsUptoRow.holds Tryz.pinned (OpenSpec.upto pricePartsSpec)

/-- 'fretsawlaw36.PriceCheck', WHERE WHAT IT READS IS OF BULK AT MOST 1048576: true; the input reads as it did. -/
def priceCheckUptoRow : OpenClaim := { program := "ytkichmnjjblodaagreat", sum := "ef5db2084b260f244a731c5db0f7c96c4152d2c530ab3219e9dad8f2e1828fdd", func := "fretsaw/fretsawlaw36.PriceCheck", spec := "priceCheck", unfollowed := true, recurses := true, loops := true, apart := false, narrowed := true }
def PriceCheckUptoSaid : Prop := priceCheckUptoRow.holds Tryz.pinned (OpenSpec.upto priceCheckSpec)

/-- 'fretsawlaw36.PriceLeast', WHERE WHAT IT READS IS OF BULK AT MOST 1048576: true; the input reads as it did. -/
def priceLeastUptoRow : OpenClaim := { program := "ytkichmnjjblodaagreat", sum := "ef5db2084b260f244a731c5db0f7c96c4152d2c530ab3219e9dad8f2e1828fdd", func := "fretsaw/fretsawlaw36.PriceLeast", spec := "priceLeast", unfollowed := true, recurses := true, apart := false, narrowed := true }
def PriceLeastUptoSaid : Prop := priceLeastUptoRow.holds Tryz.pinned (OpenSpec.upto priceLeastSpec)

/-- 'fretsawlaw36.PriceRight', WHERE WHAT IT READS IS OF BULK AT MOST 1048576: true; the input reads as it did. -/
def priceRightUptoRow : OpenClaim := { program := "ytkichmnjjblodaagreat", sum := "ef5db2084b260f244a731c5db0f7c96c4152d2c530ab3219e9dad8f2e1828fdd", func := "fretsaw/fretsawlaw36.PriceRight", spec := "priceRight", unfollowed := true, recurses := true, apart := false, narrowed := true }
def PriceRightUptoSaid : Prop := priceRightUptoRow.holds Tryz.pinned (OpenSpec.upto priceRightSpec)

/-- 'fretsawlaw36.PriceSound', WHERE WHAT IT READS IS OF BULK AT MOST 1048576: true; the input reads as it did. -/
def priceSoundUptoRow : OpenClaim := { program := "ytkichmnjjblodaagreat", sum := "ef5db2084b260f244a731c5db0f7c96c4152d2c530ab3219e9dad8f2e1828fdd", func := "fretsaw/fretsawlaw36.PriceSound", spec := "priceSound", unfollowed := true, recurses := true, loops := true, apart := false, narrowed := true }
def PriceSoundUptoSaid : Prop := priceSoundUptoRow.holds Tryz.pinned (OpenSpec.upto priceSoundSpec)

/-- 'fretsawlaw36.PriceRefute', WHERE WHAT IT READS IS OF BULK AT MOST 1048576: true; the input reads as it did. -/
def priceRefuteUptoRow : OpenClaim := { program := "ytkichmnjjblodaagreat", sum := "ef5db2084b260f244a731c5db0f7c96c4152d2c530ab3219e9dad8f2e1828fdd", func := "fretsaw/fretsawlaw36.PriceRefute", spec := "priceRefute", unfollowed := true, recurses := true, apart := false, narrowed := true }
def PriceRefuteUptoSaid : Prop := priceRefuteUptoRow.holds Tryz.pinned (OpenSpec.upto priceRefuteSpec)

/-- 'fretsawlaw36.PriceMonotone', WHERE WHAT IT READS IS OF BULK AT MOST 1048576: true; the input reads as it did. -/
def priceMonotoneUptoRow : OpenClaim := { program := "ytkichmnjjblodaagreat", sum := "ef5db2084b260f244a731c5db0f7c96c4152d2c530ab3219e9dad8f2e1828fdd", func := "fretsaw/fretsawlaw36.PriceMonotone", spec := "priceMonotone", unfollowed := true, recurses := true, apart := false, narrowed := true }
def PriceMonotoneUptoSaid : Prop := priceMonotoneUptoRow.holds Tryz.pinned (OpenSpec.upto priceMonotoneSpec)

/-- 'fretsawlaw36.PriceBound', WHERE WHAT IT READS IS OF BULK AT MOST 1048576: true; the input reads as it did. -/
def priceBoundUptoRow : OpenClaim := { program := "ytkichmnjjblodaagreat", sum := "ef5db2084b260f244a731c5db0f7c96c4152d2c530ab3219e9dad8f2e1828fdd", func := "fretsaw/fretsawlaw36.PriceBound", spec := "priceBound", unfollowed := true, recurses := true, apart := false, narrowed := true }
def PriceBoundUptoSaid : Prop := priceBoundUptoRow.holds Tryz.pinned (OpenSpec.upto priceBoundSpec)

end Rows
end Go.Proofs.YtkichmnjjblodaaGreat
