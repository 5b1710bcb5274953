/-
  No cell of these rows narrows 'for every input' (looked for: loops, veiled, ifaces, maps, wideKeys, modest, calm, conditions, laid).
  DERIVED. THE GIVEN ROWS OF THIS SEAT. 4 by the template 'for every input the law returns true; each argument reads behind the call as it read before'; 0 by the template 'total and deterministic' (their statements: YtidomjacfogjlaaGreatTotals.lean).
  GIVEN WITH THE SEED: the statements are not yours to turn. If you find one false, say at which input.
  Laid BY PROGRAM, IN A SANDBOX (cutbox-rows.mjs): the forced cells as the released guide's own fill.sh prints them over the translation 80aac78b9c8819b4… (all of the seat's roots in one cut). By AI agents, Wed Nov 11 2026. No macro, syntax, notation, axiom, sorry.
-/
import Derived.Test.YtidomjacfogjlaaGreatChecked
import GoSem.Claim
import GoSem.ClaimJoined
import GoSem.ClaimMapViews
import Derived.JoinedTies
import Derived.KernelRfl
namespace Go.Proofs.YtidomjacfogjlaaGreat
/- THE CELL 'sum', in the pinned program and in every row, IS THE sha256 OF THE DUMP (.gsa) THAT YtidomjacfogjlaaGreatProg.lean LOADS. Nothing in Lean hashes anything: it is a label: what it is worth is what the hold of that sum in a sandbox is worth. -/
noncomputable def Tryz.pinned : Pinned := { name := "ytidomjacfogjlaagreat", sum := "80aac78b9c8819b453345b14b02a6d06b09e1a8b4a6b7eb5c69a3a58e53404e9", checked := Tryz.checked }
namespace Rows
def none {H : Type} : Left H := { results := [], args := [] }

/-- 'armplanlaw29.DecomposeClassifies': WHATEVER THE INPUT: true; the input reads as it did. -/
def decomposeClassifiesSpec : ChangeSpec := { name := "decomposeClassifies", fn := fun _ => fun
  | [d1, d2, d3, d4, d5, d6] => { results := [.lit (.bool true)], args := [d1, d2, d3, d4, d5, d6] }
  | _ => none }
def decomposeClassifiesRow : OpenClaim := { program := "ytidomjacfogjlaagreat", sum := "80aac78b9c8819b453345b14b02a6d06b09e1a8b4a6b7eb5c69a3a58e53404e9", func := "armplan/armplanlaw29.DecomposeClassifies", spec := "decomposeClassifies", unfollowed := true, recurses := true, apart := false }
def DecomposeClassifiesSaid : Prop := decomposeClassifiesRow.holds Tryz.pinned (OpenSpec.ofChange decomposeClassifiesSpec)

/-- ITS FALSE NEIGHBOUR: 'it returns false'. Refute it at one input. -/
def decomposeClassifiesWrong : ChangeSpec := { name := "decomposeClassifies", fn := fun _ => fun
  | [d1, d2, d3, d4, d5, d6] => { results := [.lit (.bool false)], args := [d1, d2, d3, d4, d5, d6] }
  | _ => none }
def DecomposeClassifiesWrongFalsely : Prop := decomposeClassifiesRow.holds Tryz.pinned (OpenSpec.ofChange decomposeClassifiesWrong)

/-- 'armplanlaw29.DecomposeRefines': WHATEVER THE INPUT: true; the input reads as it did. -/
def decomposeRefinesSpec : ChangeSpec := { name := "decomposeRefines", fn := fun _ => fun
  | [d1, d2, d3, d4, d5, d6, d7] => { results := [.lit (.bool true)], args := [d1, d2, d3, d4, d5, d6, d7] }
  | _ => none }
def decomposeRefinesRow : OpenClaim := { program := "ytidomjacfogjlaagreat", sum := "80aac78b9c8819b453345b14b02a6d06b09e1a8b4a6b7eb5c69a3a58e53404e9", func := "armplan/armplanlaw29.DecomposeRefines", spec := "decomposeRefines", unfollowed := true, recurses := true, apart := false }
def DecomposeRefinesSaid : Prop := decomposeRefinesRow.holds Tryz.pinned (OpenSpec.ofChange decomposeRefinesSpec)

/-- ITS FALSE NEIGHBOUR: 'it returns false'. Refute it at one input. -/
def decomposeRefinesWrong : ChangeSpec := { name := "decomposeRefines", fn := fun _ => fun
  | [d1, d2, d3, d4, d5, d6, d7] => { results := [.lit (.bool false)], args := [d1, d2, d3, d4, d5, d6, d7] }
  | _ => none }
def DecomposeRefinesWrongFalsely : Prop := decomposeRefinesRow.holds Tryz.pinned (OpenSpec.ofChange decomposeRefinesWrong)

/-- 'armplanlaw31.CutExclusive': WHATEVER THE INPUT: true; the input reads as it did. -/
def cutExclusiveSpec : ChangeSpec := { name := "cutExclusive", fn := fun _ => fun
  | [d1, d2, d3, d4, d5, d6] => { results := [.lit (.bool true)], args := [d1, d2, d3, d4, d5, d6] }
  | _ => none }
def cutExclusiveRow : OpenClaim := { program := "ytidomjacfogjlaagreat", sum := "80aac78b9c8819b453345b14b02a6d06b09e1a8b4a6b7eb5c69a3a58e53404e9", func := "armplan/armplanlaw31.CutExclusive", spec := "cutExclusive", unfollowed := true, recurses := true, apart := false }
def CutExclusiveSaid : Prop := cutExclusiveRow.holds Tryz.pinned (OpenSpec.ofChange cutExclusiveSpec)

/-- ITS FALSE NEIGHBOUR: 'it returns false'. Refute it at one input. -/
def cutExclusiveWrong : ChangeSpec := { name := "cutExclusive", fn := fun _ => fun
  | [d1, d2, d3, d4, d5, d6] => { results := [.lit (.bool false)], args := [d1, d2, d3, d4, d5, d6] }
  | _ => none }
def CutExclusiveWrongFalsely : Prop := cutExclusiveRow.holds Tryz.pinned (OpenSpec.ofChange cutExclusiveWrong)

/-- 'armplanlaw31.CutProves': WHATEVER THE INPUT: true; the input reads as it did. -/
def cutProvesSpec : ChangeSpec := { name := "cutProves", fn := fun _ => fun
  | [d1, d2, d3, d4, d5] => { results := [.lit (.bool true)], args := [d1, d2, d3, d4, d5] }
  | _ => none }
def cutProvesRow : OpenClaim := { program := "ytidomjacfogjlaagreat", sum := "80aac78b9c8819b453345b14b02a6d06b09e1a8b4a6b7eb5c69a3a58e53404e9", func := "armplan/armplanlaw31.CutProves", spec := "cutProves", unfollowed := true, recurses := true, apart := false }
def CutProvesSaid : Prop := cutProvesRow.holds Tryz.pinned (OpenSpec.ofChange cutProvesSpec)

/-- ITS FALSE NEIGHBOUR: 'it returns false'. Refute it at one input. -/
def cutProvesWrong : ChangeSpec := { name := "cutProves", fn := fun _ => fun
  | [d1, d2, d3, d4, d5] => { results := [.lit (.bool false)], args := [d1, d2, d3, d4, d5] }
  | _ => none }
def CutProvesWrongFalsely : Prop := cutProvesRow.holds Tryz.pinned (OpenSpec.ofChange cutProvesWrong)

/- THE SECOND FORM. 'bulk': how many values and letters a reading holds, each counted each time it is reached (what is shared counts as often as it is met; a slice's spare places count too). A statement '..UptoSaid' is the law's where the arguments, and the package variables that the reading takes, are together of bulk at most 1048576: NARROWER than '..Said'. Prove '..Said' where nothing that the law and all that it calls make is longer than what came in: it says more and counts as full. Else prove '..UptoSaid'. A law counts once. -/
mutual
def uptoBulk {H : Type} : DataW H → Nat
  | .lit (.string bytes) => bytes.length + 1
  | .lit _ => 1
  | .nil => 1
  | .ptr d => uptoBulk d + 1
  | .slice elems spare => uptoBulkAll elems + uptoBulkAll spare + 1
  | .agg parts => uptoBulkAll parts + 1
  | .iface _ d => uptoBulk d + 1
  | .map entries => uptoBulkEntries entries + 1
  | .held _ => 1
def uptoBulkAll {H : Type} : List (DataW H) → Nat
  | [] => 0
  | d :: r => uptoBulk d + uptoBulkAll r
def uptoBulkEntries {H : Type} : List (Lit × DataW H) → Nat
  | [] => 0
  | x :: r => uptoBulkEntry x + uptoBulkEntries r
def uptoBulkEntry {H : Type} : Lit × DataW H → Nat
  | (.string bytes, d) => bytes.length + uptoBulk d + 1
  | (_, d) => uptoBulk d + 1
 end
def uptoSmall : (H : Type) → List (DataW H) → Bool := fun _ ds => decide (uptoBulkAll ds ≤ 1048576)
def OpenSpec.upto (s : _root_.Go.ChangeSpec) : _root_.Go.OpenSpec := { _root_.Go.OpenSpec.ofChange s with cond := some uptoSmall }

/-- 'armplanlaw29.DecomposeClassifies', WHERE WHAT IT READS IS OF BULK AT MOST 1048576: true; the input reads as it did. -/
def decomposeClassifiesUptoRow : OpenClaim := { program := "ytidomjacfogjlaagreat", sum := "80aac78b9c8819b453345b14b02a6d06b09e1a8b4a6b7eb5c69a3a58e53404e9", func := "armplan/armplanlaw29.DecomposeClassifies", spec := "decomposeClassifies", unfollowed := true, recurses := true, apart := false, narrowed := true }
def DecomposeClassifiesUptoSaid : Prop := decomposeClassifiesUptoRow.holds Tryz.pinned (OpenSpec.upto decomposeClassifiesSpec)

/-- 'armplanlaw29.DecomposeRefines', WHERE WHAT IT READS IS OF BULK AT MOST 1048576: true; the input reads as it did. -/
def decomposeRefinesUptoRow : OpenClaim := { program := "ytidomjacfogjlaagreat", sum := "80aac78b9c8819b453345b14b02a6d06b09e1a8b4a6b7eb5c69a3a58e53404e9", func := "armplan/armplanlaw29.DecomposeRefines", spec := "decomposeRefines", unfollowed := true, recurses := true, apart := false, narrowed := true }
def DecomposeRefinesUptoSaid : Prop := decomposeRefinesUptoRow.holds Tryz.pinned (OpenSpec.upto decomposeRefinesSpec)

/-- 'armplanlaw31.CutExclusive', WHERE WHAT IT READS IS OF BULK AT MOST 1048576: true; the input reads as it did. -/
def cutExclusiveUptoRow : OpenClaim := { program := "ytidomjacfogjlaagreat", sum := "80aac78b9c8819b453345b14b02a6d06b09e1a8b4a6b7eb5c69a3a58e53404e9", func := "armplan/armplanlaw31.CutExclusive", spec := "cutExclusive", unfollowed := true, recurses := true, apart := false, narrowed := true }
def CutExclusiveUptoSaid : Prop := cutExclusiveUptoRow.holds Tryz.pinned (OpenSpec.upto cutExclusiveSpec)

/-- 'armplanlaw31.CutProves', WHERE WHAT IT READS IS OF BULK AT MOST 1048576: true; the input reads as it did. -/
def cutProvesUptoRow : OpenClaim := { program := "ytidomjacfogjlaagreat", sum := "80aac78b9c8819b453345b14b02a6d06b09e1a8b4a6b7eb5c69a3a58e53404e9", func := "armplan/armplanlaw31.CutProves", spec := "cutProves", unfollowed := true, recurses := true, apart := false, narrowed := true }
def CutProvesUptoSaid : Prop := cutProvesUptoRow.holds Tryz.pinned (OpenSpec.upto cutProvesSpec)

end Rows
end Go.Proofs.YtidomjacfogjlaaGreat
