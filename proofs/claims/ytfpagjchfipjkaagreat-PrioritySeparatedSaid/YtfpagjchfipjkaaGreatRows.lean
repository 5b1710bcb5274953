/-
  No cell of these rows narrows 'for every input' (looked for: loops, veiled, ifaces, maps, wideKeys, modest, calm, conditions, laid).
  DERIVED. THE GIVEN ROWS OF THIS SEAT. 2 by the template 'for every input the law returns true; each argument reads behind the call as it read before'; 0 by the template 'total and deterministic' (their statements: YtfpagjchfipjkaaGreatTotals.lean).
  GIVEN WITH THE SEED: the statements are not yours to turn. If you find one false, say at which input.
  Laid BY PROGRAM, IN A SANDBOX (cutbox-rows.mjs): the forced cells as the released guide's own fill.sh prints them over the translation ced025a59fdb4959… (all of the seat's roots in one cut). By AI agents, Wed Nov 11 2026. No macro, syntax, notation, axiom, sorry.
-/
import Derived.Test.YtfpagjchfipjkaaGreatChecked
import GoSem.Claim
import GoSem.ClaimJoined
import GoSem.ClaimMapViews
import Derived.JoinedTies
import Derived.KernelRfl
namespace Go.Proofs.YtfpagjchfipjkaaGreat
/- THE CELL 'sum', in the pinned program and in every row, IS THE sha256 OF THE DUMP (.gsa) THAT YtfpagjchfipjkaaGreatProg.lean LOADS. Nothing in Lean hashes anything: it is a label: what it is worth is what the hold of that sum in a sandbox is worth. -/
noncomputable def Tryz.pinned : Pinned := { name := "ytfpagjchfipjkaagreat", sum := "ced025a59fdb4959de4850e479543597aaf71427e814a73e97d84eb24a274787", checked := Tryz.checked }
namespace Rows
def none {H : Type} : Left H := { results := [], args := [] }

/-- 'armplanlaw36.PriorityConflicts': WHATEVER THE INPUT: true; the input reads as it did. -/
def priorityConflictsSpec : ChangeSpec := { name := "priorityConflicts", fn := fun _ => fun
  | [d1, d2, d3, d4, d5] => { results := [.lit (.bool true)], args := [d1, d2, d3, d4, d5] }
  | _ => none }
def priorityConflictsRow : OpenClaim := { program := "ytfpagjchfipjkaagreat", sum := "ced025a59fdb4959de4850e479543597aaf71427e814a73e97d84eb24a274787", func := "armplan/armplanlaw36.PriorityConflicts", spec := "priorityConflicts", unfollowed := true, recurses := true, plainKeys := false, apart := false }
def PriorityConflictsSaid : Prop := priorityConflictsRow.holds Tryz.pinned (OpenSpec.ofChange priorityConflictsSpec)

/-- ITS FALSE NEIGHBOUR: 'it returns false'. Refute it at one input. -/
def priorityConflictsWrong : ChangeSpec := { name := "priorityConflicts", fn := fun _ => fun
  | [d1, d2, d3, d4, d5] => { results := [.lit (.bool false)], args := [d1, d2, d3, d4, d5] }
  | _ => none }
def PriorityConflictsWrongFalsely : Prop := priorityConflictsRow.holds Tryz.pinned (OpenSpec.ofChange priorityConflictsWrong)

/-- 'armplanlaw36.PrioritySeparated': WHATEVER THE INPUT: true; the input reads as it did. -/
def prioritySeparatedSpec : ChangeSpec := { name := "prioritySeparated", fn := fun _ => fun
  | [d1, d2, d3, d4, d5, d6, d7] => { results := [.lit (.bool true)], args := [d1, d2, d3, d4, d5, d6, d7] }
  | _ => none }
def prioritySeparatedRow : OpenClaim := { program := "ytfpagjchfipjkaagreat", sum := "ced025a59fdb4959de4850e479543597aaf71427e814a73e97d84eb24a274787", func := "armplan/armplanlaw36.PrioritySeparated", spec := "prioritySeparated", unfollowed := true, recurses := true, plainKeys := false, apart := false }
def PrioritySeparatedSaid : Prop := prioritySeparatedRow.holds Tryz.pinned (OpenSpec.ofChange prioritySeparatedSpec)

/-- ITS FALSE NEIGHBOUR: 'it returns false'. Refute it at one input. -/
def prioritySeparatedWrong : ChangeSpec := { name := "prioritySeparated", fn := fun _ => fun
  | [d1, d2, d3, d4, d5, d6, d7] => { results := [.lit (.bool false)], args := [d1, d2, d3, d4, d5, d6, d7] }
  | _ => none }
def PrioritySeparatedWrongFalsely : Prop := prioritySeparatedRow.holds Tryz.pinned (OpenSpec.ofChange prioritySeparatedWrong)

/- THE SECOND FORM. 'bulk': how many values and letters a reading holds, each counted each time it is reached (what is shared counts as often as it is met; a slice's spare places count too). A statement '..UptoSaid' is the law's where the arguments, and the package variables that the reading takes, are together of bulk at most 1048576: NARROWER than '..Said'. Prove '..Said' where nothing that the law and all that it calls make is longer than what came in: it says more and counts as full. Else prove '..UptoSaid'. A law counts once. -/
mutual
def uptoBulk {H : Type} : DataW H → Nat
  | .lit (.string bytes) => bytes.length + 1
  | .lit _ => 1
  | .nil => 1
  | .ptr d => uptoBulk d + 1
  | .slice elems spare => uptoBulkAll elems + uptoBulkAll spare + 1
  | .agg parts => uptoBulkAll parts + 1
  | .iface _ d => uptoBulk d + 1
  | .map entries => uptoBulkEntries entries + 1
  | .held _ => 1
def uptoBulkAll {H : Type} : List (DataW H) → Nat
  | [] => 0
  | d :: r => uptoBulk d + uptoBulkAll r
def uptoBulkEntries {H : Type} : List (Lit × DataW H) → Nat
  | [] => 0
  | x :: r => uptoBulkEntry x + uptoBulkEntries r
def uptoBulkEntry {H : Type} : Lit × DataW H → Nat
  | (.string bytes, d) => bytes.length + uptoBulk d + 1
  | (_, d) => uptoBulk d + 1
 end
def uptoSmall : (H : Type) → List (DataW H) → Bool := fun _ ds => decide (uptoBulkAll ds ≤ 1048576)
def OpenSpec.upto (s : _root_.Go.ChangeSpec) : _root_.Go.OpenSpec := { _root_.Go.OpenSpec.ofChange s with cond := some uptoSmall }

/-- 'armplanlaw36.PriorityConflicts', WHERE WHAT IT READS IS OF BULK AT MOST 1048576: true; the input reads as it did. -/
def priorityConflictsUptoRow : OpenClaim := { program := "ytfpagjchfipjkaagreat", sum := "ced025a59fdb4959de4850e479543597aaf71427e814a73e97d84eb24a274787", func := "armplan/armplanlaw36.PriorityConflicts", spec := "priorityConflicts", unfollowed := true, recurses := true, plainKeys := false, apart := false, narrowed := true }
def PriorityConflictsUptoSaid : Prop := priorityConflictsUptoRow.holds Tryz.pinned (OpenSpec.upto priorityConflictsSpec)

/-- 'armplanlaw36.PrioritySeparated', WHERE WHAT IT READS IS OF BULK AT MOST 1048576: true; the input reads as it did. -/
def prioritySeparatedUptoRow : OpenClaim := { program := "ytfpagjchfipjkaagreat", sum := "ced025a59fdb4959de4850e479543597aaf71427e814a73e97d84eb24a274787", func := "armplan/armplanlaw36.PrioritySeparated", spec := "prioritySeparated", unfollowed := true, recurses := true, plainKeys := false, apart := false, narrowed := true }
def PrioritySeparatedUptoSaid : Prop := prioritySeparatedUptoRow.holds Tryz.pinned (OpenSpec.upto prioritySeparatedSpec)

end Rows
end Go.Proofs.YtfpagjchfipjkaaGreat
