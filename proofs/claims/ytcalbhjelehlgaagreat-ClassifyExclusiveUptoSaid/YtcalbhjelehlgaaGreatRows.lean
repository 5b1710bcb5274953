/-
  No cell of these rows narrows 'for every input' (looked for: loops, veiled, ifaces, maps, wideKeys, modest, calm, conditions, laid).
  DERIVED. THE GIVEN ROWS OF THIS SEAT. 8 by the template 'for every input the law returns true; each argument reads behind the call as it read before'; 0 by the template 'total and deterministic' (their statements: YtcalbhjelehlgaaGreatTotals.lean).
  GIVEN WITH THE SEED: the statements are not yours to turn. If you find one false, say at which input.
  Laid BY PROGRAM, IN A SANDBOX (cutbox-rows.mjs): the forced cells as the released guide's own fill.sh prints them over the translation 1247bd5e15488a94… (all of the seat's roots in one cut). By AI agents, Wed Nov 11 2026. No macro, syntax, notation, axiom, sorry.
-/
import Derived.Test.YtcalbhjelehlgaaGreatChecked
import GoSem.Claim
import GoSem.ClaimJoined
import GoSem.ClaimMapViews
import Derived.JoinedTies
import Derived.KernelRfl
namespace Go.Proofs.YtcalbhjelehlgaaGreat
/- THE CELL 'sum', in the pinned program and in every row, IS THE sha256 OF THE DUMP (.gsa) THAT YtcalbhjelehlgaaGreatProg.lean LOADS. Nothing in Lean hashes anything: it is a label: what it is worth is what the hold of that sum in a sandbox is worth. -/
noncomputable def Tryz.pinned : Pinned := { name := "ytcalbhjelehlgaagreat", sum := "1247bd5e15488a940810d4ff5df6c001803a771c5e4584a57556b02b991eab51", checked := Tryz.checked }
namespace Rows
def none {H : Type} : Left H := { results := [], args := [] }

/-- 'armplanlaw18.ClassifyBoxes': WHATEVER THE INPUT: true; the input reads as it did. -/
def classifyBoxesSpec : ChangeSpec := { name := "classifyBoxes", fn := fun _ => fun
  | [d1, d2, d3, d4, d5, d6] => { results := [.lit (.bool true)], args := [d1, d2, d3, d4, d5, d6] }
  | _ => none }
def classifyBoxesRow : OpenClaim := { program := "ytcalbhjelehlgaagreat", sum := "1247bd5e15488a940810d4ff5df6c001803a771c5e4584a57556b02b991eab51", func := "armplan/armplanlaw18.ClassifyBoxes", spec := "classifyBoxes", unfollowed := true, recurses := true, apart := false }
def ClassifyBoxesSaid : Prop := classifyBoxesRow.holds Tryz.pinned (OpenSpec.ofChange classifyBoxesSpec)

/-- ITS FALSE NEIGHBOUR: 'it returns false'. Refute it at one input. -/
def classifyBoxesWrong : ChangeSpec := { name := "classifyBoxes", fn := fun _ => fun
  | [d1, d2, d3, d4, d5, d6] => { results := [.lit (.bool false)], args := [d1, d2, d3, d4, d5, d6] }
  | _ => none }
def ClassifyBoxesWrongFalsely : Prop := classifyBoxesRow.holds Tryz.pinned (OpenSpec.ofChange classifyBoxesWrong)

/-- 'armplanlaw18.ClassifySound': WHATEVER THE INPUT: true; the input reads as it did. -/
def classifySoundSpec : ChangeSpec := { name := "classifySound", fn := fun _ => fun
  | [d1, d2, d3] => { results := [.lit (.bool true)], args := [d1, d2, d3] }
  | _ => none }
def classifySoundRow : OpenClaim := { program := "ytcalbhjelehlgaagreat", sum := "1247bd5e15488a940810d4ff5df6c001803a771c5e4584a57556b02b991eab51", func := "armplan/armplanlaw18.ClassifySound", spec := "classifySound", unfollowed := true, recurses := true, apart := false }
def ClassifySoundSaid : Prop := classifySoundRow.holds Tryz.pinned (OpenSpec.ofChange classifySoundSpec)

/-- ITS FALSE NEIGHBOUR: 'it returns false'. Refute it at one input. -/
def classifySoundWrong : ChangeSpec := { name := "classifySound", fn := fun _ => fun
  | [d1, d2, d3] => { results := [.lit (.bool false)], args := [d1, d2, d3] }
  | _ => none }
def ClassifySoundWrongFalsely : Prop := classifySoundRow.holds Tryz.pinned (OpenSpec.ofChange classifySoundWrong)

/-- 'armplanlaw18.ClassifyPoint': WHATEVER THE INPUT: true; the input reads as it did. -/
def classifyPointSpec : ChangeSpec := { name := "classifyPoint", fn := fun _ => fun
  | [d1, d2, d3] => { results := [.lit (.bool true)], args := [d1, d2, d3] }
  | _ => none }
def classifyPointRow : OpenClaim := { program := "ytcalbhjelehlgaagreat", sum := "1247bd5e15488a940810d4ff5df6c001803a771c5e4584a57556b02b991eab51", func := "armplan/armplanlaw18.ClassifyPoint", spec := "classifyPoint", unfollowed := true, recurses := true, apart := false }
def ClassifyPointSaid : Prop := classifyPointRow.holds Tryz.pinned (OpenSpec.ofChange classifyPointSpec)

/-- ITS FALSE NEIGHBOUR: 'it returns false'. Refute it at one input. -/
def classifyPointWrong : ChangeSpec := { name := "classifyPoint", fn := fun _ => fun
  | [d1, d2, d3] => { results := [.lit (.bool false)], args := [d1, d2, d3] }
  | _ => none }
def ClassifyPointWrongFalsely : Prop := classifyPointRow.holds Tryz.pinned (OpenSpec.ofChange classifyPointWrong)

/-- 'armplanlaw18.ClassifyHints': WHATEVER THE INPUT: true; the input reads as it did. -/
def classifyHintsSpec : ChangeSpec := { name := "classifyHints", fn := fun _ => fun
  | [d1, d2, d3] => { results := [.lit (.bool true)], args := [d1, d2, d3] }
  | _ => none }
def classifyHintsRow : OpenClaim := { program := "ytcalbhjelehlgaagreat", sum := "1247bd5e15488a940810d4ff5df6c001803a771c5e4584a57556b02b991eab51", func := "armplan/armplanlaw18.ClassifyHints", spec := "classifyHints", unfollowed := true, recurses := true, apart := false }
def ClassifyHintsSaid : Prop := classifyHintsRow.holds Tryz.pinned (OpenSpec.ofChange classifyHintsSpec)

/-- ITS FALSE NEIGHBOUR: 'it returns false'. Refute it at one input. -/
def classifyHintsWrong : ChangeSpec := { name := "classifyHints", fn := fun _ => fun
  | [d1, d2, d3] => { results := [.lit (.bool false)], args := [d1, d2, d3] }
  | _ => none }
def ClassifyHintsWrongFalsely : Prop := classifyHintsRow.holds Tryz.pinned (OpenSpec.ofChange classifyHintsWrong)

/-- 'armplanlaw18.ClassifyExclusive': WHATEVER THE INPUT: true; the input reads as it did. -/
def classifyExclusiveSpec : ChangeSpec := { name := "classifyExclusive", fn := fun _ => fun
  | [d1, d2, d3, d4, d5, d6, d7] => { results := [.lit (.bool true)], args := [d1, d2, d3, d4, d5, d6, d7] }
  | _ => none }
def classifyExclusiveRow : OpenClaim := { program := "ytcalbhjelehlgaagreat", sum := "1247bd5e15488a940810d4ff5df6c001803a771c5e4584a57556b02b991eab51", func := "armplan/armplanlaw18.ClassifyExclusive", spec := "classifyExclusive", unfollowed := true, recurses := true, apart := false }
def ClassifyExclusiveSaid : Prop := classifyExclusiveRow.holds Tryz.pinned (OpenSpec.ofChange classifyExclusiveSpec)

/-- ITS FALSE NEIGHBOUR: 'it returns false'. Refute it at one input. -/
def classifyExclusiveWrong : ChangeSpec := { name := "classifyExclusive", fn := fun _ => fun
  | [d1, d2, d3, d4, d5, d6, d7] => { results := [.lit (.bool false)], args := [d1, d2, d3, d4, d5, d6, d7] }
  | _ => none }
def ClassifyExclusiveWrongFalsely : Prop := classifyExclusiveRow.holds Tryz.pinned (OpenSpec.ofChange classifyExclusiveWrong)

/-- 'armplanlaw18.ClassifyMonotone': WHATEVER THE INPUT: true; the input reads as it did. -/
def classifyMonotoneSpec : ChangeSpec := { name := "classifyMonotone", fn := fun _ => fun
  | [d1, d2, d3] => { results := [.lit (.bool true)], args := [d1, d2, d3] }
  | _ => none }
def classifyMonotoneRow : OpenClaim := { program := "ytcalbhjelehlgaagreat", sum := "1247bd5e15488a940810d4ff5df6c001803a771c5e4584a57556b02b991eab51", func := "armplan/armplanlaw18.ClassifyMonotone", spec := "classifyMonotone", unfollowed := true, recurses := true, apart := false }
def ClassifyMonotoneSaid : Prop := classifyMonotoneRow.holds Tryz.pinned (OpenSpec.ofChange classifyMonotoneSpec)

/-- ITS FALSE NEIGHBOUR: 'it returns false'. Refute it at one input. -/
def classifyMonotoneWrong : ChangeSpec := { name := "classifyMonotone", fn := fun _ => fun
  | [d1, d2, d3] => { results := [.lit (.bool false)], args := [d1, d2, d3] }
  | _ => none }
def ClassifyMonotoneWrongFalsely : Prop := classifyMonotoneRow.holds Tryz.pinned (OpenSpec.ofChange classifyMonotoneWrong)

/-- 'armplanlaw18.ClassifyStill': WHATEVER THE INPUT: true; the input reads as it did. -/
def classifyStillSpec : ChangeSpec := { name := "classifyStill", fn := fun _ => fun
  | [d1, d2] => { results := [.lit (.bool true)], args := [d1, d2] }
  | _ => none }
def classifyStillRow : OpenClaim := { program := "ytcalbhjelehlgaagreat", sum := "1247bd5e15488a940810d4ff5df6c001803a771c5e4584a57556b02b991eab51", func := "armplan/armplanlaw18.ClassifyStill", spec := "classifyStill", unfollowed := true, recurses := true, apart := false }
def ClassifyStillSaid : Prop := classifyStillRow.holds Tryz.pinned (OpenSpec.ofChange classifyStillSpec)

/-- ITS FALSE NEIGHBOUR: 'it returns false'. Refute it at one input. -/
def classifyStillWrong : ChangeSpec := { name := "classifyStill", fn := fun _ => fun
  | [d1, d2] => { results := [.lit (.bool false)], args := [d1, d2] }
  | _ => none }
def ClassifyStillWrongFalsely : Prop := classifyStillRow.holds Tryz.pinned (OpenSpec.ofChange classifyStillWrong)

/-- 'armplanlaw18.ClassifyRefused': WHATEVER THE INPUT: true; the input reads as it did. -/
def classifyRefusedSpec : ChangeSpec := { name := "classifyRefused", fn := fun _ => fun
  | [d1, d2, d3, d4] => { results := [.lit (.bool true)], args := [d1, d2, d3, d4] }
  | _ => none }
def classifyRefusedRow : OpenClaim := { program := "ytcalbhjelehlgaagreat", sum := "1247bd5e15488a940810d4ff5df6c001803a771c5e4584a57556b02b991eab51", func := "armplan/armplanlaw18.ClassifyRefused", spec := "classifyRefused", unfollowed := true, recurses := true, apart := false }
def ClassifyRefusedSaid : Prop := classifyRefusedRow.holds Tryz.pinned (OpenSpec.ofChange classifyRefusedSpec)

/-- ITS FALSE NEIGHBOUR: 'it returns false'. Refute it at one input. -/
def classifyRefusedWrong : ChangeSpec := { name := "classifyRefused", fn := fun _ => fun
  | [d1, d2, d3, d4] => { results := [.lit (.bool false)], args := [d1, d2, d3, d4] }
  | _ => none }
def ClassifyRefusedWrongFalsely : Prop := classifyRefusedRow.holds Tryz.pinned (OpenSpec.ofChange classifyRefusedWrong)

/- THE SECOND FORM. 'bulk': how many values and letters a reading holds, each counted each time it is reached (what is shared counts as often as it is met; a slice's spare places count too). A statement '..UptoSaid' is the law's where the arguments, and the package variables that the reading takes, are together of bulk at most 1048576: NARROWER than '..Said'. Prove '..Said' where nothing that the law and all that it calls make is longer than what came in: it says more and counts as full. Else prove '..UptoSaid'. A law counts once. -/
mutual
def uptoBulk {H : Type} : DataW H → Nat
  | .lit (.string bytes) => bytes.length + 1
  | .lit _ => 1
  | .nil => 1
  | .ptr d => uptoBulk d + 1
  | .slice elems spare => uptoBulkAll elems + uptoBulkAll spare + 1
  | .agg parts => uptoBulkAll parts + 1
  | .iface _ d => uptoBulk d + 1
  | .map entries => uptoBulkEntries entries + 1
  | .held _ => 1
def uptoBulkAll {H : Type} : List (DataW H) → Nat
  | [] => 0
  | d :: r => uptoBulk d + uptoBulkAll r
def uptoBulkEntries {H : Type} : List (Lit × DataW H) → Nat
  | [] => 0
  | x :: r => uptoBulkEntry x + uptoBulkEntries r
def uptoBulkEntry {H : Type} : Lit × DataW H → Nat
  | (.string bytes, d) => bytes.length + uptoBulk d + 1
  | (_, d) => uptoBulk d + 1
 end
def uptoSmall : (H : Type) → List (DataW H) → Bool := fun _ ds => decide (uptoBulkAll ds ≤ 1048576)
def OpenSpec.upto (s : _root_.Go.ChangeSpec) : _root_.Go.OpenSpec := { _root_.Go.OpenSpec.ofChange s with cond := some uptoSmall }

/-- 'armplanlaw18.ClassifyBoxes', WHERE WHAT IT READS IS OF BULK AT MOST 1048576: true; the input reads as it did. -/
def classifyBoxesUptoRow : OpenClaim := { program := "ytcalbhjelehlgaagreat", sum := "1247bd5e15488a940810d4ff5df6c001803a771c5e4584a57556b02b991eab51", func := "armplan/armplanlaw18.ClassifyBoxes", spec := "classifyBoxes", unfollowed := true, recurses := true, apart := false, narrowed := true }
def ClassifyBoxesUptoSaid : Prop := classifyBoxesUptoRow.holds Tryz.pinned (OpenSpec.upto classifyBoxesSpec)

/-- 'armplanlaw18.ClassifySound', WHERE WHAT IT READS IS OF BULK AT MOST 1048576: true; the input reads as it did. -/
def classifySoundUptoRow : OpenClaim := { program := "ytcalbhjelehlgaagreat", sum := "1247bd5e15488a940810d4ff5df6c001803a771c5e4584a57556b02b991eab51", func := "armplan/armplanlaw18.ClassifySound", spec := "classifySound", unfollowed := true, recurses := true, apart := false, narrowed := true }
def ClassifySoundUptoSaid : Prop := classifySoundUptoRow.holds Tryz.pinned (OpenSpec.upto classifySoundSpec)

/-- 'armplanlaw18.ClassifyPoint', WHERE WHAT IT READS IS OF BULK AT MOST 1048576: true; the input reads as it did. -/
def classifyPointUptoRow : OpenClaim := { program := "ytcalbhjelehlgaagreat", sum := "1247bd5e15488a940810d4ff5df6c001803a771c5e4584a57556b02b991eab51", func := "armplan/armplanlaw18.ClassifyPoint", spec := "classifyPoint", unfollowed := true, recurses := true, apart := false, narrowed := true }
def ClassifyPointUptoSaid : Prop := classifyPointUptoRow.holds Tryz.pinned (OpenSpec.upto classifyPointSpec)

/-- 'armplanlaw18.ClassifyHints', WHERE WHAT IT READS IS OF BULK AT MOST 1048576: true; the input reads as it did. -/
def classifyHintsUptoRow : OpenClaim := { program := "ytcalbhjelehlgaagreat", sum := "1247bd5e15488a940810d4ff5df6c001803a771c5e4584a57556b02b991eab51", func := "armplan/armplanlaw18.ClassifyHints", spec := "classifyHints", unfollowed := true, recurses := true, apart := false, narrowed := true }
def ClassifyHintsUptoSaid : Prop := classifyHintsUptoRow.holds Tryz.pinned (OpenSpec.upto classifyHintsSpec)

/-- 'armplanlaw18.ClassifyExclusive', WHERE WHAT IT READS IS OF BULK AT MOST 1048576: true; the input reads as it did. -/
def classifyExclusiveUptoRow : OpenClaim := { program := "ytcalbhjelehlgaagreat", sum := "1247bd5e15488a940810d4ff5df6c001803a771c5e4584a57556b02b991eab51", func := "armplan/armplanlaw18.ClassifyExclusive", spec := "classifyExclusive", unfollowed := true, recurses := true, apart := false, narrowed := true }
def ClassifyExclusiveUptoSaid : Prop := classifyExclusiveUptoRow.holds Tryz.pinned (OpenSpec.upto classifyExclusiveSpec)

/-- 'armplanlaw18.ClassifyMonotone', WHERE WHAT IT READS IS OF BULK AT MOST 1048576: true; the input reads as it did. -/
def classifyMonotoneUptoRow : OpenClaim := { program := "ytcalbhjelehlgaagreat", sum := "1247bd5e15488a940810d4ff5df6c001803a771c5e4584a57556b02b991eab51", func := "armplan/armplanlaw18.ClassifyMonotone", spec := "classifyMonotone", unfollowed := true, recurses := true, apart := false, narrowed := true }
def ClassifyMonotoneUptoSaid : Prop := classifyMonotoneUptoRow.holds Tryz.pinned (OpenSpec.upto classifyMonotoneSpec)

/-- 'armplanlaw18.ClassifyStill', WHERE WHAT IT READS IS OF BULK AT MOST 1048576: true; the input reads as it did. -/
def classifyStillUptoRow : OpenClaim := { program := "ytcalbhjelehlgaagreat", sum := "1247bd5e15488a940810d4ff5df6c001803a771c5e4584a57556b02b991eab51", func := "armplan/armplanlaw18.ClassifyStill", spec := "classifyStill", unfollowed := true, recurses := true, apart := false, narrowed := true }
def ClassifyStillUptoSaid : Prop := classifyStillUptoRow.holds Tryz.pinned (OpenSpec.upto classifyStillSpec)

/-- 'armplanlaw18.ClassifyRefused', WHERE WHAT IT READS IS OF BULK AT MOST 1048576: true; the input reads as it did. -/
def classifyRefusedUptoRow : OpenClaim := { program := "ytcalbhjelehlgaagreat", sum := "1247bd5e15488a940810d4ff5df6c001803a771c5e4584a57556b02b991eab51", func := "armplan/armplanlaw18.ClassifyRefused", spec := "classifyRefused", unfollowed := true, recurses := true, apart := false, narrowed := true }
def ClassifyRefusedUptoSaid : Prop := classifyRefusedUptoRow.holds Tryz.pinned (OpenSpec.upto classifyRefusedSpec)

end Rows
end Go.Proofs.YtcalbhjelehlgaaGreat
