/-
  No cell of these rows narrows 'for every input' (looked for: loops, veiled, ifaces, maps, wideKeys, modest, calm, conditions, laid).
  DERIVED. THE GIVEN ROWS OF THIS SEAT. 11 by the template 'for every input the law returns true; each argument reads behind the call as it read before'; 0 by the template 'total and deterministic' (their statements: YtpbakcmohoahgaaGreatTotals.lean).
  GIVEN WITH THE SEED: the statements are not yours to turn. If you find one false, say at which input.
  Laid BY PROGRAM, IN A SANDBOX (cutbox-rows.mjs): the forced cells as the released guide's own fill.sh prints them over the translation 4eaac3f84f629aa3… (all of the seat's roots in one cut). By AI agents, Wed Nov 11 2026. No macro, syntax, notation, axiom, sorry.
-/
import Derived.Test.YtpbakcmohoahgaaGreatChecked
import GoSem.Claim
import GoSem.ClaimJoined
import GoSem.ClaimMapViews
import Derived.JoinedTies
import Derived.KernelRfl
namespace Go.Proofs.YtpbakcmohoahgaaGreat
/- THE CELL 'sum', in the pinned program and in every row, IS THE sha256 OF THE DUMP (.gsa) THAT YtpbakcmohoahgaaGreatProg.lean LOADS. Nothing in Lean hashes anything: it is a label: what it is worth is what the hold of that sum in a sandbox is worth. -/
noncomputable def Tryz.pinned : Pinned := { name := "ytpbakcmohoahgaagreat", sum := "4eaac3f84f629aa36e15f8da8e880a65ff60e5d5a1ca786f54fb200c6552bf7a", checked := Tryz.checked }
namespace Rows
def none {H : Type} : Left H := { results := [], args := [] }

/-- 'armplanlaw28.TreeCarries': WHATEVER THE INPUT: true; the input reads as it did. -/
def treeCarriesSpec : ChangeSpec := { name := "treeCarries", fn := fun _ => fun
  | [d1, d2, d3] => { results := [.lit (.bool true)], args := [d1, d2, d3] }
  | _ => none }
def treeCarriesRow : OpenClaim := { program := "ytpbakcmohoahgaagreat", sum := "4eaac3f84f629aa36e15f8da8e880a65ff60e5d5a1ca786f54fb200c6552bf7a", func := "armplan/armplanlaw28.TreeCarries", spec := "treeCarries", unfollowed := true, recurses := true, plainKeys := false, apart := false }
def TreeCarriesSaid : Prop := treeCarriesRow.holds Tryz.pinned (OpenSpec.ofChange treeCarriesSpec)

/-- ITS FALSE NEIGHBOUR: 'it returns false'. Refute it at one input. -/
def treeCarriesWrong : ChangeSpec := { name := "treeCarries", fn := fun _ => fun
  | [d1, d2, d3] => { results := [.lit (.bool false)], args := [d1, d2, d3] }
  | _ => none }
def TreeCarriesWrongFalsely : Prop := treeCarriesRow.holds Tryz.pinned (OpenSpec.ofChange treeCarriesWrong)

/-- 'armplanlaw30.CorridorCertifies': WHATEVER THE INPUT: true; the input reads as it did. -/
def corridorCertifiesSpec : ChangeSpec := { name := "corridorCertifies", fn := fun _ => fun
  | [d1, d2, d3, d4, d5, d6, d7, d8] => { results := [.lit (.bool true)], args := [d1, d2, d3, d4, d5, d6, d7, d8] }
  | _ => none }
def corridorCertifiesRow : OpenClaim := { program := "ytpbakcmohoahgaagreat", sum := "4eaac3f84f629aa36e15f8da8e880a65ff60e5d5a1ca786f54fb200c6552bf7a", func := "armplan/armplanlaw30.CorridorCertifies", spec := "corridorCertifies", unfollowed := true, recurses := true, plainKeys := false, apart := false }
def CorridorCertifiesSaid : Prop := corridorCertifiesRow.holds Tryz.pinned (OpenSpec.ofChange corridorCertifiesSpec)

/-- ITS FALSE NEIGHBOUR: 'it returns false'. Refute it at one input. -/
def corridorCertifiesWrong : ChangeSpec := { name := "corridorCertifies", fn := fun _ => fun
  | [d1, d2, d3, d4, d5, d6, d7, d8] => { results := [.lit (.bool false)], args := [d1, d2, d3, d4, d5, d6, d7, d8] }
  | _ => none }
def CorridorCertifiesWrongFalsely : Prop := corridorCertifiesRow.holds Tryz.pinned (OpenSpec.ofChange corridorCertifiesWrong)

/-- 'armplanlaw30.CorridorAccepted': WHATEVER THE INPUT: true; the input reads as it did. -/
def corridorAcceptedSpec : ChangeSpec := { name := "corridorAccepted", fn := fun _ => fun
  | [d1, d2, d3, d4, d5] => { results := [.lit (.bool true)], args := [d1, d2, d3, d4, d5] }
  | _ => none }
def corridorAcceptedRow : OpenClaim := { program := "ytpbakcmohoahgaagreat", sum := "4eaac3f84f629aa36e15f8da8e880a65ff60e5d5a1ca786f54fb200c6552bf7a", func := "armplan/armplanlaw30.CorridorAccepted", spec := "corridorAccepted", unfollowed := true, recurses := true, plainKeys := false, apart := false }
def CorridorAcceptedSaid : Prop := corridorAcceptedRow.holds Tryz.pinned (OpenSpec.ofChange corridorAcceptedSpec)

/-- ITS FALSE NEIGHBOUR: 'it returns false'. Refute it at one input. -/
def corridorAcceptedWrong : ChangeSpec := { name := "corridorAccepted", fn := fun _ => fun
  | [d1, d2, d3, d4, d5] => { results := [.lit (.bool false)], args := [d1, d2, d3, d4, d5] }
  | _ => none }
def CorridorAcceptedWrongFalsely : Prop := corridorAcceptedRow.holds Tryz.pinned (OpenSpec.ofChange corridorAcceptedWrong)

/-- 'armplanlaw18.ClassifyBoxes': WHATEVER THE INPUT: true; the input reads as it did. -/
def classifyBoxesSpec : ChangeSpec := { name := "classifyBoxes", fn := fun _ => fun
  | [d1, d2, d3, d4, d5, d6] => { results := [.lit (.bool true)], args := [d1, d2, d3, d4, d5, d6] }
  | _ => none }
def classifyBoxesRow : OpenClaim := { program := "ytpbakcmohoahgaagreat", sum := "4eaac3f84f629aa36e15f8da8e880a65ff60e5d5a1ca786f54fb200c6552bf7a", func := "armplan/armplanlaw18.ClassifyBoxes", spec := "classifyBoxes", unfollowed := true, recurses := true, plainKeys := false, apart := false }
def ClassifyBoxesSaid : Prop := classifyBoxesRow.holds Tryz.pinned (OpenSpec.ofChange classifyBoxesSpec)

/-- ITS FALSE NEIGHBOUR: 'it returns false'. Refute it at one input. -/
def classifyBoxesWrong : ChangeSpec := { name := "classifyBoxes", fn := fun _ => fun
  | [d1, d2, d3, d4, d5, d6] => { results := [.lit (.bool false)], args := [d1, d2, d3, d4, d5, d6] }
  | _ => none }
def ClassifyBoxesWrongFalsely : Prop := classifyBoxesRow.holds Tryz.pinned (OpenSpec.ofChange classifyBoxesWrong)

/-- 'armplanlaw18.ClassifyRefused': WHATEVER THE INPUT: true; the input reads as it did. -/
def classifyRefusedSpec : ChangeSpec := { name := "classifyRefused", fn := fun _ => fun
  | [d1, d2, d3, d4] => { results := [.lit (.bool true)], args := [d1, d2, d3, d4] }
  | _ => none }
def classifyRefusedRow : OpenClaim := { program := "ytpbakcmohoahgaagreat", sum := "4eaac3f84f629aa36e15f8da8e880a65ff60e5d5a1ca786f54fb200c6552bf7a", func := "armplan/armplanlaw18.ClassifyRefused", spec := "classifyRefused", unfollowed := true, recurses := true, plainKeys := false, apart := false }
def ClassifyRefusedSaid : Prop := classifyRefusedRow.holds Tryz.pinned (OpenSpec.ofChange classifyRefusedSpec)

/-- ITS FALSE NEIGHBOUR: 'it returns false'. Refute it at one input. -/
def classifyRefusedWrong : ChangeSpec := { name := "classifyRefused", fn := fun _ => fun
  | [d1, d2, d3, d4] => { results := [.lit (.bool false)], args := [d1, d2, d3, d4] }
  | _ => none }
def ClassifyRefusedWrongFalsely : Prop := classifyRefusedRow.holds Tryz.pinned (OpenSpec.ofChange classifyRefusedWrong)

/-- 'armplanlaw31.CutChecks': WHATEVER THE INPUT: true; the input reads as it did. -/
def cutChecksSpec : ChangeSpec := { name := "cutChecks", fn := fun _ => fun
  | [d1, d2, d3, d4, d5, d6, d7, d8, d9] => { results := [.lit (.bool true)], args := [d1, d2, d3, d4, d5, d6, d7, d8, d9] }
  | _ => none }
def cutChecksRow : OpenClaim := { program := "ytpbakcmohoahgaagreat", sum := "4eaac3f84f629aa36e15f8da8e880a65ff60e5d5a1ca786f54fb200c6552bf7a", func := "armplan/armplanlaw31.CutChecks", spec := "cutChecks", unfollowed := true, recurses := true, plainKeys := false, apart := false }
def CutChecksSaid : Prop := cutChecksRow.holds Tryz.pinned (OpenSpec.ofChange cutChecksSpec)

/-- ITS FALSE NEIGHBOUR: 'it returns false'. Refute it at one input. -/
def cutChecksWrong : ChangeSpec := { name := "cutChecks", fn := fun _ => fun
  | [d1, d2, d3, d4, d5, d6, d7, d8, d9] => { results := [.lit (.bool false)], args := [d1, d2, d3, d4, d5, d6, d7, d8, d9] }
  | _ => none }
def CutChecksWrongFalsely : Prop := cutChecksRow.holds Tryz.pinned (OpenSpec.ofChange cutChecksWrong)

/-- 'armplanlaw31.CutExclusive': WHATEVER THE INPUT: true; the input reads as it did. -/
def cutExclusiveSpec : ChangeSpec := { name := "cutExclusive", fn := fun _ => fun
  | [d1, d2, d3, d4, d5, d6] => { results := [.lit (.bool true)], args := [d1, d2, d3, d4, d5, d6] }
  | _ => none }
def cutExclusiveRow : OpenClaim := { program := "ytpbakcmohoahgaagreat", sum := "4eaac3f84f629aa36e15f8da8e880a65ff60e5d5a1ca786f54fb200c6552bf7a", func := "armplan/armplanlaw31.CutExclusive", spec := "cutExclusive", unfollowed := true, recurses := true, plainKeys := false, apart := false }
def CutExclusiveSaid : Prop := cutExclusiveRow.holds Tryz.pinned (OpenSpec.ofChange cutExclusiveSpec)

/-- ITS FALSE NEIGHBOUR: 'it returns false'. Refute it at one input. -/
def cutExclusiveWrong : ChangeSpec := { name := "cutExclusive", fn := fun _ => fun
  | [d1, d2, d3, d4, d5, d6] => { results := [.lit (.bool false)], args := [d1, d2, d3, d4, d5, d6] }
  | _ => none }
def CutExclusiveWrongFalsely : Prop := cutExclusiveRow.holds Tryz.pinned (OpenSpec.ofChange cutExclusiveWrong)

/-- 'armplanlaw31.CutProves': WHATEVER THE INPUT: true; the input reads as it did. -/
def cutProvesSpec : ChangeSpec := { name := "cutProves", fn := fun _ => fun
  | [d1, d2, d3, d4, d5] => { results := [.lit (.bool true)], args := [d1, d2, d3, d4, d5] }
  | _ => none }
def cutProvesRow : OpenClaim := { program := "ytpbakcmohoahgaagreat", sum := "4eaac3f84f629aa36e15f8da8e880a65ff60e5d5a1ca786f54fb200c6552bf7a", func := "armplan/armplanlaw31.CutProves", spec := "cutProves", unfollowed := true, recurses := true, plainKeys := false, apart := false }
def CutProvesSaid : Prop := cutProvesRow.holds Tryz.pinned (OpenSpec.ofChange cutProvesSpec)

/-- ITS FALSE NEIGHBOUR: 'it returns false'. Refute it at one input. -/
def cutProvesWrong : ChangeSpec := { name := "cutProves", fn := fun _ => fun
  | [d1, d2, d3, d4, d5] => { results := [.lit (.bool false)], args := [d1, d2, d3, d4, d5] }
  | _ => none }
def CutProvesWrongFalsely : Prop := cutProvesRow.holds Tryz.pinned (OpenSpec.ofChange cutProvesWrong)

/-- 'armplanlaw29.DecomposeChains': WHATEVER THE INPUT: true; the input reads as it did. -/
def decomposeChainsSpec : ChangeSpec := { name := "decomposeChains", fn := fun _ => fun
  | [d1, d2, d3, d4, d5, d6, d7] => { results := [.lit (.bool true)], args := [d1, d2, d3, d4, d5, d6, d7] }
  | _ => none }
def decomposeChainsRow : OpenClaim := { program := "ytpbakcmohoahgaagreat", sum := "4eaac3f84f629aa36e15f8da8e880a65ff60e5d5a1ca786f54fb200c6552bf7a", func := "armplan/armplanlaw29.DecomposeChains", spec := "decomposeChains", unfollowed := true, recurses := true, plainKeys := false, apart := false }
def DecomposeChainsSaid : Prop := decomposeChainsRow.holds Tryz.pinned (OpenSpec.ofChange decomposeChainsSpec)

/-- ITS FALSE NEIGHBOUR: 'it returns false'. Refute it at one input. -/
def decomposeChainsWrong : ChangeSpec := { name := "decomposeChains", fn := fun _ => fun
  | [d1, d2, d3, d4, d5, d6, d7] => { results := [.lit (.bool false)], args := [d1, d2, d3, d4, d5, d6, d7] }
  | _ => none }
def DecomposeChainsWrongFalsely : Prop := decomposeChainsRow.holds Tryz.pinned (OpenSpec.ofChange decomposeChainsWrong)

/-- 'armplanlaw29.DecomposeNext': WHATEVER THE INPUT: true; the input reads as it did. -/
def decomposeNextSpec : ChangeSpec := { name := "decomposeNext", fn := fun _ => fun
  | [d1, d2, d3, d4, d5, d6, d7, d8] => { results := [.lit (.bool true)], args := [d1, d2, d3, d4, d5, d6, d7, d8] }
  | _ => none }
def decomposeNextRow : OpenClaim := { program := "ytpbakcmohoahgaagreat", sum := "4eaac3f84f629aa36e15f8da8e880a65ff60e5d5a1ca786f54fb200c6552bf7a", func := "armplan/armplanlaw29.DecomposeNext", spec := "decomposeNext", unfollowed := true, recurses := true, plainKeys := false, apart := false }
def DecomposeNextSaid : Prop := decomposeNextRow.holds Tryz.pinned (OpenSpec.ofChange decomposeNextSpec)

/-- ITS FALSE NEIGHBOUR: 'it returns false'. Refute it at one input. -/
def decomposeNextWrong : ChangeSpec := { name := "decomposeNext", fn := fun _ => fun
  | [d1, d2, d3, d4, d5, d6, d7, d8] => { results := [.lit (.bool false)], args := [d1, d2, d3, d4, d5, d6, d7, d8] }
  | _ => none }
def DecomposeNextWrongFalsely : Prop := decomposeNextRow.holds Tryz.pinned (OpenSpec.ofChange decomposeNextWrong)

/-- 'armplanlaw29.DecomposeClassifies': WHATEVER THE INPUT: true; the input reads as it did. -/
def decomposeClassifiesSpec : ChangeSpec := { name := "decomposeClassifies", fn := fun _ => fun
  | [d1, d2, d3, d4, d5, d6] => { results := [.lit (.bool true)], args := [d1, d2, d3, d4, d5, d6] }
  | _ => none }
def decomposeClassifiesRow : OpenClaim := { program := "ytpbakcmohoahgaagreat", sum := "4eaac3f84f629aa36e15f8da8e880a65ff60e5d5a1ca786f54fb200c6552bf7a", func := "armplan/armplanlaw29.DecomposeClassifies", spec := "decomposeClassifies", unfollowed := true, recurses := true, plainKeys := false, apart := false }
def DecomposeClassifiesSaid : Prop := decomposeClassifiesRow.holds Tryz.pinned (OpenSpec.ofChange decomposeClassifiesSpec)

/-- ITS FALSE NEIGHBOUR: 'it returns false'. Refute it at one input. -/
def decomposeClassifiesWrong : ChangeSpec := { name := "decomposeClassifies", fn := fun _ => fun
  | [d1, d2, d3, d4, d5, d6] => { results := [.lit (.bool false)], args := [d1, d2, d3, d4, d5, d6] }
  | _ => none }
def DecomposeClassifiesWrongFalsely : Prop := decomposeClassifiesRow.holds Tryz.pinned (OpenSpec.ofChange decomposeClassifiesWrong)

/- THE SECOND FORM. 'bulk': how many values and letters a reading holds, each counted each time it is reached (what is shared counts as often as it is met; a slice's spare places count too). A statement '..UptoSaid' is the law's where the arguments, and the package variables that the reading takes, are together of bulk at most 1048576: NARROWER than '..Said'. Prove '..Said' where nothing that the law and all that it calls make is longer than what came in: it says more and counts as full. Else prove '..UptoSaid'. A law counts once. -/
mutual
def uptoBulk {H : Type} : DataW H → Nat
  | .lit (.string bytes) => bytes.length + 1
  | .lit _ => 1
  | .nil => 1
  | .ptr d => uptoBulk d + 1
  | .slice elems spare => uptoBulkAll elems + uptoBulkAll spare + 1
  | .agg parts => uptoBulkAll parts + 1
  | .iface _ d => uptoBulk d + 1
  | .map entries => uptoBulkEntries entries + 1
  | .held _ => 1
def uptoBulkAll {H : Type} : List (DataW H) → Nat
  | [] => 0
  | d :: r => uptoBulk d + uptoBulkAll r
def uptoBulkEntries {H : Type} : List (Lit × DataW H) → Nat
  | [] => 0
  | x :: r => uptoBulkEntry x + uptoBulkEntries r
def uptoBulkEntry {H : Type} : Lit × DataW H → Nat
  | (.string bytes, d) => bytes.length + uptoBulk d + 1
  | (_, d) => uptoBulk d + 1
 end
def uptoSmall : (H : Type) → List (DataW H) → Bool := fun _ ds => decide (uptoBulkAll ds ≤ 1048576)
def OpenSpec.upto (s : _root_.Go.ChangeSpec) : _root_.Go.OpenSpec := { _root_.Go.OpenSpec.ofChange s with cond := some uptoSmall }

/-- 'armplanlaw28.TreeCarries', WHERE WHAT IT READS IS OF BULK AT MOST 1048576: true; the input reads as it did. -/
def treeCarriesUptoRow : OpenClaim := { program := "ytpbakcmohoahgaagreat", sum := "4eaac3f84f629aa36e15f8da8e880a65ff60e5d5a1ca786f54fb200c6552bf7a", func := "armplan/armplanlaw28.TreeCarries", spec := "treeCarries", unfollowed := true, recurses := true, plainKeys := false, apart := false, narrowed := true }
def TreeCarriesUptoSaid : Prop := treeCarriesUptoRow.holds Tryz.pinned (OpenSpec.upto treeCarriesSpec)

/-- 'armplanlaw30.CorridorCertifies', WHERE WHAT IT READS IS OF BULK AT MOST 1048576: true; the input reads as it did. -/
def corridorCertifiesUptoRow : OpenClaim := { program := "ytpbakcmohoahgaagreat", sum := "4eaac3f84f629aa36e15f8da8e880a65ff60e5d5a1ca786f54fb200c6552bf7a", func := "armplan/armplanlaw30.CorridorCertifies", spec := "corridorCertifies", unfollowed := true, recurses := true, plainKeys := false, apart := false, narrowed := true }
def CorridorCertifiesUptoSaid : Prop := corridorCertifiesUptoRow.holds Tryz.pinned (OpenSpec.upto corridorCertifiesSpec)

/-- 'armplanlaw30.CorridorAccepted', WHERE WHAT IT READS IS OF BULK AT MOST 1048576: true; the input reads as it did. -/
def corridorAcceptedUptoRow : OpenClaim := { program := "ytpbakcmohoahgaagreat", sum := "4eaac3f84f629aa36e15f8da8e880a65ff60e5d5a1ca786f54fb200c6552bf7a", func := "armplan/armplanlaw30.CorridorAccepted", spec := "corridorAccepted", unfollowed := true, recurses := true, plainKeys := false, apart := false, narrowed := true }
def CorridorAcceptedUptoSaid : Prop := corridorAcceptedUptoRow.holds Tryz.pinned (OpenSpec.upto corridorAcceptedSpec)

/-- 'armplanlaw18.ClassifyBoxes', WHERE WHAT IT READS IS OF BULK AT MOST 1048576: true; the input reads as it did. -/
def classifyBoxesUptoRow : OpenClaim := { program := "ytpbakcmohoahgaagreat", sum := "4eaac3f84f629aa36e15f8da8e880a65ff60e5d5a1ca786f54fb200c6552bf7a", func := "armplan/armplanlaw18.ClassifyBoxes", spec := "classifyBoxes", unfollowed := true, recurses := true, plainKeys := false, apart := false, narrowed := true }
def ClassifyBoxesUptoSaid : Prop := classifyBoxesUptoRow.holds Tryz.pinned (OpenSpec.upto classifyBoxesSpec)

/-- 'armplanlaw18.ClassifyRefused', WHERE WHAT IT READS IS OF BULK AT MOST 1048576: true; the input reads as it did. -/
def classifyRefusedUptoRow : OpenClaim := { program := "ytpbakcmohoahgaagreat", sum := "4eaac3f84f629aa36e15f8da8e880a65ff60e5d5a1ca786f54fb200c6552bf7a", func := "armplan/armplanlaw18.ClassifyRefused", spec := "classifyRefused", unfollowed := true, recurses := true, plainKeys := false, apart := false, narrowed := true }
def ClassifyRefusedUptoSaid : Prop := classifyRefusedUptoRow.holds Tryz.pinned (OpenSpec.upto classifyRefusedSpec)

/-- 'armplanlaw31.CutChecks', WHERE WHAT IT READS IS OF BULK AT MOST 1048576: true; the input reads as it did. -/
def cutChecksUptoRow : OpenClaim := { program := "ytpbakcmohoahgaagreat", sum := "4eaac3f84f629aa36e15f8da8e880a65ff60e5d5a1ca786f54fb200c6552bf7a", func := "armplan/armplanlaw31.CutChecks", spec := "cutChecks", unfollowed := true, recurses := true, plainKeys := false, apart := false, narrowed := true }
def CutChecksUptoSaid : Prop := cutChecksUptoRow.holds Tryz.pinned (OpenSpec.upto cutChecksSpec)

/-- 'armplanlaw31.CutExclusive', WHERE WHAT IT READS IS OF BULK AT MOST 1048576: true; the input reads as it did. -/
def cutExclusiveUptoRow : OpenClaim := { program := "ytpbakcmohoahgaagreat", sum := "4eaac3f84f629aa36e15f8da8e880a65ff60e5d5a1ca786f54fb200c6552bf7a", func := "armplan/armplanlaw31.CutExclusive", spec := "cutExclusive", unfollowed := true, recurses := true, plainKeys := false, apart := false, narrowed := true }
def CutExclusiveUptoSaid : Prop := cutExclusiveUptoRow.holds Tryz.pinned (OpenSpec.upto cutExclusiveSpec)

/-- 'armplanlaw31.CutProves', WHERE WHAT IT READS IS OF BULK AT MOST 1048576: true; the input reads as it did. -/
def cutProvesUptoRow : OpenClaim := { program := "ytpbakcmohoahgaagreat", sum := "4eaac3f84f629aa36e15f8da8e880a65ff60e5d5a1ca786f54fb200c6552bf7a", func := "armplan/armplanlaw31.CutProves", spec := "cutProves", unfollowed := true, recurses := true, plainKeys := false, apart := false, narrowed := true }
def CutProvesUptoSaid : Prop := cutProvesUptoRow.holds Tryz.pinned (OpenSpec.upto cutProvesSpec)

/-- 'armplanlaw29.DecomposeChains', WHERE WHAT IT READS IS OF BULK AT MOST 1048576: true; the input reads as it did. -/
def decomposeChainsUptoRow : OpenClaim := { program := "ytpbakcmohoahgaagreat", sum := "4eaac3f84f629aa36e15f8da8e880a65ff60e5d5a1ca786f54fb200c6552bf7a", func := "armplan/armplanlaw29.DecomposeChains", spec := "decomposeChains", unfollowed := true, recurses := true, plainKeys := false, apart := false, narrowed := true }
def DecomposeChainsUptoSaid : Prop := decomposeChainsUptoRow.holds Tryz.pinned (OpenSpec.upto decomposeChainsSpec)

/-- 'armplanlaw29.DecomposeNext', WHERE WHAT IT READS IS OF BULK AT MOST 1048576: true; the input reads as it did. -/
def decomposeNextUptoRow : OpenClaim := { program := "ytpbakcmohoahgaagreat", sum := "4eaac3f84f629aa36e15f8da8e880a65ff60e5d5a1ca786f54fb200c6552bf7a", func := "armplan/armplanlaw29.DecomposeNext", spec := "decomposeNext", unfollowed := true, recurses := true, plainKeys := false, apart := false, narrowed := true }
def DecomposeNextUptoSaid : Prop := decomposeNextUptoRow.holds Tryz.pinned (OpenSpec.upto decomposeNextSpec)

/-- 'armplanlaw29.DecomposeClassifies', WHERE WHAT IT READS IS OF BULK AT MOST 1048576: true; the input reads as it did. -/
def decomposeClassifiesUptoRow : OpenClaim := { program := "ytpbakcmohoahgaagreat", sum := "4eaac3f84f629aa36e15f8da8e880a65ff60e5d5a1ca786f54fb200c6552bf7a", func := "armplan/armplanlaw29.DecomposeClassifies", spec := "decomposeClassifies", unfollowed := true, recurses := true, plainKeys := false, apart := false, narrowed := true }
def DecomposeClassifiesUptoSaid : Prop := decomposeClassifiesUptoRow.holds Tryz.pinned (OpenSpec.upto decomposeClassifiesSpec)

end Rows
end Go.Proofs.YtpbakcmohoahgaaGreat
