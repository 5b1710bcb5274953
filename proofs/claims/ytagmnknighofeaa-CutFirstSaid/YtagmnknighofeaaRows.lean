/-
  No cell of these rows narrows 'for every input' (looked for: loops, veiled, ifaces, maps, wideKeys, modest, calm, conditions, laid).
  DERIVED. THE GIVEN ROWS OF THIS SEAT. 16 by the template 'for every input the law returns true; each argument reads behind the call as it read before'; 0 by the template 'total and deterministic' (their statements: YtagmnknighofeaaTotals.lean).
  GIVEN WITH THE SEED: the statements are not yours to turn. If you find one false, say at which input.
  Laid BY PROGRAM, IN A SANDBOX (cutbox-rows.mjs): the forced cells as the released guide's own fill.sh prints them over the translation 7f3f789b564b3b20… (all of the seat's roots in one cut). By AI agents, Wed Nov 11 2026. No macro, syntax, notation, axiom, sorry.
-/
import Derived.Test.YtagmnknighofeaaChecked
import GoSem.Claim
import GoSem.ClaimJoined
import GoSem.ClaimMapViews
import Derived.JoinedTies
import Derived.KernelRfl
namespace Go.Proofs.Ytagmnknighofeaa
/- THE CELL 'sum', in the pinned program and in every row, IS THE sha256 OF THE DUMP (.gsa) THAT YtagmnknighofeaaProg.lean LOADS. Nothing in Lean hashes anything: it is a label: what it is worth is what the hold of that sum in a sandbox is worth. -/
noncomputable def Try.pinned : Pinned := { name := "ytagmnknighofeaa", sum := "7f3f789b564b3b20f5c5c6993e5c9247d1564d5a0cf7aa81bbd10b3ac045dce0", checked := Try.checked }
namespace Rows
def none {H : Type} : Left H := { results := [], args := [] }

/-- 'armplanlaw28.TreeValid': WHATEVER THE INPUT: true; the input reads as it did. -/
def treeValidSpec : ChangeSpec := { name := "treeValid", fn := fun _ => fun
  | [d1, d2, d3, d4, d5, d6] => { results := [.lit (.bool true)], args := [d1, d2, d3, d4, d5, d6] }
  | _ => none }
def treeValidRow : OpenClaim := { program := "ytagmnknighofeaa", sum := "7f3f789b564b3b20f5c5c6993e5c9247d1564d5a0cf7aa81bbd10b3ac045dce0", func := "armplan/armplanlaw28.TreeValid", spec := "treeValid", unfollowed := true, recurses := true, apart := false }
def TreeValidSaid : Prop := treeValidRow.holds Try.pinned (OpenSpec.ofChange treeValidSpec)

/-- ITS FALSE NEIGHBOUR: 'it returns false'. Refute it at one input. -/
def treeValidWrong : ChangeSpec := { name := "treeValid", fn := fun _ => fun
  | [d1, d2, d3, d4, d5, d6] => { results := [.lit (.bool false)], args := [d1, d2, d3, d4, d5, d6] }
  | _ => none }
def TreeValidWrongFalsely : Prop := treeValidRow.holds Try.pinned (OpenSpec.ofChange treeValidWrong)

/-- 'armplanlaw28.TreeTiles': WHATEVER THE INPUT: true; the input reads as it did. -/
def treeTilesSpec : ChangeSpec := { name := "treeTiles", fn := fun _ => fun
  | [d1, d2] => { results := [.lit (.bool true)], args := [d1, d2] }
  | _ => none }
def treeTilesRow : OpenClaim := { program := "ytagmnknighofeaa", sum := "7f3f789b564b3b20f5c5c6993e5c9247d1564d5a0cf7aa81bbd10b3ac045dce0", func := "armplan/armplanlaw28.TreeTiles", spec := "treeTiles", unfollowed := true, recurses := true, apart := false }
def TreeTilesSaid : Prop := treeTilesRow.holds Try.pinned (OpenSpec.ofChange treeTilesSpec)

/-- ITS FALSE NEIGHBOUR: 'it returns false'. Refute it at one input. -/
def treeTilesWrong : ChangeSpec := { name := "treeTiles", fn := fun _ => fun
  | [d1, d2] => { results := [.lit (.bool false)], args := [d1, d2] }
  | _ => none }
def TreeTilesWrongFalsely : Prop := treeTilesRow.holds Try.pinned (OpenSpec.ofChange treeTilesWrong)

/-- 'armplanlaw28.TreeDisjoint': WHATEVER THE INPUT: true; the input reads as it did. -/
def treeDisjointSpec : ChangeSpec := { name := "treeDisjoint", fn := fun _ => fun
  | [d1, d2, d3] => { results := [.lit (.bool true)], args := [d1, d2, d3] }
  | _ => none }
def treeDisjointRow : OpenClaim := { program := "ytagmnknighofeaa", sum := "7f3f789b564b3b20f5c5c6993e5c9247d1564d5a0cf7aa81bbd10b3ac045dce0", func := "armplan/armplanlaw28.TreeDisjoint", spec := "treeDisjoint", unfollowed := true, recurses := true, apart := false }
def TreeDisjointSaid : Prop := treeDisjointRow.holds Try.pinned (OpenSpec.ofChange treeDisjointSpec)

/-- ITS FALSE NEIGHBOUR: 'it returns false'. Refute it at one input. -/
def treeDisjointWrong : ChangeSpec := { name := "treeDisjoint", fn := fun _ => fun
  | [d1, d2, d3] => { results := [.lit (.bool false)], args := [d1, d2, d3] }
  | _ => none }
def TreeDisjointWrongFalsely : Prop := treeDisjointRow.holds Try.pinned (OpenSpec.ofChange treeDisjointWrong)

/-- 'armplanlaw28.TreeChanges': WHATEVER THE INPUT: true; the input reads as it did. -/
def treeChangesSpec : ChangeSpec := { name := "treeChanges", fn := fun _ => fun
  | [d1, d2, d3, d4, d5, d6, d7, d8, d9] => { results := [.lit (.bool true)], args := [d1, d2, d3, d4, d5, d6, d7, d8, d9] }
  | _ => none }
def treeChangesRow : OpenClaim := { program := "ytagmnknighofeaa", sum := "7f3f789b564b3b20f5c5c6993e5c9247d1564d5a0cf7aa81bbd10b3ac045dce0", func := "armplan/armplanlaw28.TreeChanges", spec := "treeChanges", unfollowed := true, recurses := true, apart := false }
def TreeChangesSaid : Prop := treeChangesRow.holds Try.pinned (OpenSpec.ofChange treeChangesSpec)

/-- ITS FALSE NEIGHBOUR: 'it returns false'. Refute it at one input. -/
def treeChangesWrong : ChangeSpec := { name := "treeChanges", fn := fun _ => fun
  | [d1, d2, d3, d4, d5, d6, d7, d8, d9] => { results := [.lit (.bool false)], args := [d1, d2, d3, d4, d5, d6, d7, d8, d9] }
  | _ => none }
def TreeChangesWrongFalsely : Prop := treeChangesRow.holds Try.pinned (OpenSpec.ofChange treeChangesWrong)

/-- 'armplanlaw28.TreeKeeps': WHATEVER THE INPUT: true; the input reads as it did. -/
def treeKeepsSpec : ChangeSpec := { name := "treeKeeps", fn := fun _ => fun
  | [d1, d2, d3, d4] => { results := [.lit (.bool true)], args := [d1, d2, d3, d4] }
  | _ => none }
def treeKeepsRow : OpenClaim := { program := "ytagmnknighofeaa", sum := "7f3f789b564b3b20f5c5c6993e5c9247d1564d5a0cf7aa81bbd10b3ac045dce0", func := "armplan/armplanlaw28.TreeKeeps", spec := "treeKeeps", unfollowed := true, recurses := true, apart := false }
def TreeKeepsSaid : Prop := treeKeepsRow.holds Try.pinned (OpenSpec.ofChange treeKeepsSpec)

/-- ITS FALSE NEIGHBOUR: 'it returns false'. Refute it at one input. -/
def treeKeepsWrong : ChangeSpec := { name := "treeKeeps", fn := fun _ => fun
  | [d1, d2, d3, d4] => { results := [.lit (.bool false)], args := [d1, d2, d3, d4] }
  | _ => none }
def TreeKeepsWrongFalsely : Prop := treeKeepsRow.holds Try.pinned (OpenSpec.ofChange treeKeepsWrong)

/-- 'armplanlaw28.TreeLooks': WHATEVER THE INPUT: true; the input reads as it did. -/
def treeLooksSpec : ChangeSpec := { name := "treeLooks", fn := fun _ => fun
  | [d1, d2, d3, d4, d5, d6, d7, d8] => { results := [.lit (.bool true)], args := [d1, d2, d3, d4, d5, d6, d7, d8] }
  | _ => none }
def treeLooksRow : OpenClaim := { program := "ytagmnknighofeaa", sum := "7f3f789b564b3b20f5c5c6993e5c9247d1564d5a0cf7aa81bbd10b3ac045dce0", func := "armplan/armplanlaw28.TreeLooks", spec := "treeLooks", unfollowed := true, recurses := true, apart := false }
def TreeLooksSaid : Prop := treeLooksRow.holds Try.pinned (OpenSpec.ofChange treeLooksSpec)

/-- ITS FALSE NEIGHBOUR: 'it returns false'. Refute it at one input. -/
def treeLooksWrong : ChangeSpec := { name := "treeLooks", fn := fun _ => fun
  | [d1, d2, d3, d4, d5, d6, d7, d8] => { results := [.lit (.bool false)], args := [d1, d2, d3, d4, d5, d6, d7, d8] }
  | _ => none }
def TreeLooksWrongFalsely : Prop := treeLooksRow.holds Try.pinned (OpenSpec.ofChange treeLooksWrong)

/-- 'armplanlaw28.TreeNeighbors': WHATEVER THE INPUT: true; the input reads as it did. -/
def treeNeighborsSpec : ChangeSpec := { name := "treeNeighbors", fn := fun _ => fun
  | [d1, d2, d3] => { results := [.lit (.bool true)], args := [d1, d2, d3] }
  | _ => none }
def treeNeighborsRow : OpenClaim := { program := "ytagmnknighofeaa", sum := "7f3f789b564b3b20f5c5c6993e5c9247d1564d5a0cf7aa81bbd10b3ac045dce0", func := "armplan/armplanlaw28.TreeNeighbors", spec := "treeNeighbors", unfollowed := true, recurses := true, apart := false }
def TreeNeighborsSaid : Prop := treeNeighborsRow.holds Try.pinned (OpenSpec.ofChange treeNeighborsSpec)

/-- ITS FALSE NEIGHBOUR: 'it returns false'. Refute it at one input. -/
def treeNeighborsWrong : ChangeSpec := { name := "treeNeighbors", fn := fun _ => fun
  | [d1, d2, d3] => { results := [.lit (.bool false)], args := [d1, d2, d3] }
  | _ => none }
def TreeNeighborsWrongFalsely : Prop := treeNeighborsRow.holds Try.pinned (OpenSpec.ofChange treeNeighborsWrong)

/-- 'armplanlaw30.CorridorPoints': WHATEVER THE INPUT: true; the input reads as it did. -/
def corridorPointsSpec : ChangeSpec := { name := "corridorPoints", fn := fun _ => fun
  | [d1, d2, d3, d4, d5, d6, d7, d8, d9] => { results := [.lit (.bool true)], args := [d1, d2, d3, d4, d5, d6, d7, d8, d9] }
  | _ => none }
def corridorPointsRow : OpenClaim := { program := "ytagmnknighofeaa", sum := "7f3f789b564b3b20f5c5c6993e5c9247d1564d5a0cf7aa81bbd10b3ac045dce0", func := "armplan/armplanlaw30.CorridorPoints", spec := "corridorPoints", unfollowed := true, recurses := true, apart := false }
def CorridorPointsSaid : Prop := corridorPointsRow.holds Try.pinned (OpenSpec.ofChange corridorPointsSpec)

/-- ITS FALSE NEIGHBOUR: 'it returns false'. Refute it at one input. -/
def corridorPointsWrong : ChangeSpec := { name := "corridorPoints", fn := fun _ => fun
  | [d1, d2, d3, d4, d5, d6, d7, d8, d9] => { results := [.lit (.bool false)], args := [d1, d2, d3, d4, d5, d6, d7, d8, d9] }
  | _ => none }
def CorridorPointsWrongFalsely : Prop := corridorPointsRow.holds Try.pinned (OpenSpec.ofChange corridorPointsWrong)

/-- 'armplanlaw30.CorridorInside': WHATEVER THE INPUT: true; the input reads as it did. -/
def corridorInsideSpec : ChangeSpec := { name := "corridorInside", fn := fun _ => fun
  | [d1, d2, d3, d4, d5] => { results := [.lit (.bool true)], args := [d1, d2, d3, d4, d5] }
  | _ => none }
def corridorInsideRow : OpenClaim := { program := "ytagmnknighofeaa", sum := "7f3f789b564b3b20f5c5c6993e5c9247d1564d5a0cf7aa81bbd10b3ac045dce0", func := "armplan/armplanlaw30.CorridorInside", spec := "corridorInside", unfollowed := true, recurses := true, apart := false }
def CorridorInsideSaid : Prop := corridorInsideRow.holds Try.pinned (OpenSpec.ofChange corridorInsideSpec)

/-- ITS FALSE NEIGHBOUR: 'it returns false'. Refute it at one input. -/
def corridorInsideWrong : ChangeSpec := { name := "corridorInside", fn := fun _ => fun
  | [d1, d2, d3, d4, d5] => { results := [.lit (.bool false)], args := [d1, d2, d3, d4, d5] }
  | _ => none }
def CorridorInsideWrongFalsely : Prop := corridorInsideRow.holds Try.pinned (OpenSpec.ofChange corridorInsideWrong)

/-- 'armplanlaw30.CorridorNearest': WHATEVER THE INPUT: true; the input reads as it did. -/
def corridorNearestSpec : ChangeSpec := { name := "corridorNearest", fn := fun _ => fun
  | [d1, d2, d3, d4, d5] => { results := [.lit (.bool true)], args := [d1, d2, d3, d4, d5] }
  | _ => none }
def corridorNearestRow : OpenClaim := { program := "ytagmnknighofeaa", sum := "7f3f789b564b3b20f5c5c6993e5c9247d1564d5a0cf7aa81bbd10b3ac045dce0", func := "armplan/armplanlaw30.CorridorNearest", spec := "corridorNearest", unfollowed := true, recurses := true, apart := false }
def CorridorNearestSaid : Prop := corridorNearestRow.holds Try.pinned (OpenSpec.ofChange corridorNearestSpec)

/-- ITS FALSE NEIGHBOUR: 'it returns false'. Refute it at one input. -/
def corridorNearestWrong : ChangeSpec := { name := "corridorNearest", fn := fun _ => fun
  | [d1, d2, d3, d4, d5] => { results := [.lit (.bool false)], args := [d1, d2, d3, d4, d5] }
  | _ => none }
def CorridorNearestWrongFalsely : Prop := corridorNearestRow.holds Try.pinned (OpenSpec.ofChange corridorNearestWrong)

/-- 'armplanlaw31.CutMeets': WHATEVER THE INPUT: true; the input reads as it did. -/
def cutMeetsSpec : ChangeSpec := { name := "cutMeets", fn := fun _ => fun
  | [d1, d2, d3, d4, d5] => { results := [.lit (.bool true)], args := [d1, d2, d3, d4, d5] }
  | _ => none }
def cutMeetsRow : OpenClaim := { program := "ytagmnknighofeaa", sum := "7f3f789b564b3b20f5c5c6993e5c9247d1564d5a0cf7aa81bbd10b3ac045dce0", func := "armplan/armplanlaw31.CutMeets", spec := "cutMeets", unfollowed := true, recurses := true, apart := false }
def CutMeetsSaid : Prop := cutMeetsRow.holds Try.pinned (OpenSpec.ofChange cutMeetsSpec)

/-- ITS FALSE NEIGHBOUR: 'it returns false'. Refute it at one input. -/
def cutMeetsWrong : ChangeSpec := { name := "cutMeets", fn := fun _ => fun
  | [d1, d2, d3, d4, d5] => { results := [.lit (.bool false)], args := [d1, d2, d3, d4, d5] }
  | _ => none }
def CutMeetsWrongFalsely : Prop := cutMeetsRow.holds Try.pinned (OpenSpec.ofChange cutMeetsWrong)

/-- 'armplanlaw31.CutTopology': WHATEVER THE INPUT: true; the input reads as it did. -/
def cutTopologySpec : ChangeSpec := { name := "cutTopology", fn := fun _ => fun
  | [d1, d2, d3, d4, d5] => { results := [.lit (.bool true)], args := [d1, d2, d3, d4, d5] }
  | _ => none }
def cutTopologyRow : OpenClaim := { program := "ytagmnknighofeaa", sum := "7f3f789b564b3b20f5c5c6993e5c9247d1564d5a0cf7aa81bbd10b3ac045dce0", func := "armplan/armplanlaw31.CutTopology", spec := "cutTopology", unfollowed := true, recurses := true, apart := false }
def CutTopologySaid : Prop := cutTopologyRow.holds Try.pinned (OpenSpec.ofChange cutTopologySpec)

/-- ITS FALSE NEIGHBOUR: 'it returns false'. Refute it at one input. -/
def cutTopologyWrong : ChangeSpec := { name := "cutTopology", fn := fun _ => fun
  | [d1, d2, d3, d4, d5] => { results := [.lit (.bool false)], args := [d1, d2, d3, d4, d5] }
  | _ => none }
def CutTopologyWrongFalsely : Prop := cutTopologyRow.holds Try.pinned (OpenSpec.ofChange cutTopologyWrong)

/-- 'armplanlaw31.CutFirst': WHATEVER THE INPUT: true; the input reads as it did. -/
def cutFirstSpec : ChangeSpec := { name := "cutFirst", fn := fun _ => fun
  | [d1, d2, d3, d4, d5, d6] => { results := [.lit (.bool true)], args := [d1, d2, d3, d4, d5, d6] }
  | _ => none }
def cutFirstRow : OpenClaim := { program := "ytagmnknighofeaa", sum := "7f3f789b564b3b20f5c5c6993e5c9247d1564d5a0cf7aa81bbd10b3ac045dce0", func := "armplan/armplanlaw31.CutFirst", spec := "cutFirst", unfollowed := true, recurses := true, apart := false }
def CutFirstSaid : Prop := cutFirstRow.holds Try.pinned (OpenSpec.ofChange cutFirstSpec)

/-- ITS FALSE NEIGHBOUR: 'it returns false'. Refute it at one input. -/
def cutFirstWrong : ChangeSpec := { name := "cutFirst", fn := fun _ => fun
  | [d1, d2, d3, d4, d5, d6] => { results := [.lit (.bool false)], args := [d1, d2, d3, d4, d5, d6] }
  | _ => none }
def CutFirstWrongFalsely : Prop := cutFirstRow.holds Try.pinned (OpenSpec.ofChange cutFirstWrong)

/-- 'armplanlaw31.CutFloods': WHATEVER THE INPUT: true; the input reads as it did. -/
def cutFloodsSpec : ChangeSpec := { name := "cutFloods", fn := fun _ => fun
  | [d1, d2, d3, d4, d5, d6] => { results := [.lit (.bool true)], args := [d1, d2, d3, d4, d5, d6] }
  | _ => none }
def cutFloodsRow : OpenClaim := { program := "ytagmnknighofeaa", sum := "7f3f789b564b3b20f5c5c6993e5c9247d1564d5a0cf7aa81bbd10b3ac045dce0", func := "armplan/armplanlaw31.CutFloods", spec := "cutFloods", unfollowed := true, recurses := true, apart := false }
def CutFloodsSaid : Prop := cutFloodsRow.holds Try.pinned (OpenSpec.ofChange cutFloodsSpec)

/-- ITS FALSE NEIGHBOUR: 'it returns false'. Refute it at one input. -/
def cutFloodsWrong : ChangeSpec := { name := "cutFloods", fn := fun _ => fun
  | [d1, d2, d3, d4, d5, d6] => { results := [.lit (.bool false)], args := [d1, d2, d3, d4, d5, d6] }
  | _ => none }
def CutFloodsWrongFalsely : Prop := cutFloodsRow.holds Try.pinned (OpenSpec.ofChange cutFloodsWrong)

/-- 'armplanlaw31.CutReached': WHATEVER THE INPUT: true; the input reads as it did. -/
def cutReachedSpec : ChangeSpec := { name := "cutReached", fn := fun _ => fun
  | [d1, d2, d3, d4] => { results := [.lit (.bool true)], args := [d1, d2, d3, d4] }
  | _ => none }
def cutReachedRow : OpenClaim := { program := "ytagmnknighofeaa", sum := "7f3f789b564b3b20f5c5c6993e5c9247d1564d5a0cf7aa81bbd10b3ac045dce0", func := "armplan/armplanlaw31.CutReached", spec := "cutReached", unfollowed := true, recurses := true, apart := false }
def CutReachedSaid : Prop := cutReachedRow.holds Try.pinned (OpenSpec.ofChange cutReachedSpec)

/-- ITS FALSE NEIGHBOUR: 'it returns false'. Refute it at one input. -/
def cutReachedWrong : ChangeSpec := { name := "cutReached", fn := fun _ => fun
  | [d1, d2, d3, d4] => { results := [.lit (.bool false)], args := [d1, d2, d3, d4] }
  | _ => none }
def CutReachedWrongFalsely : Prop := cutReachedRow.holds Try.pinned (OpenSpec.ofChange cutReachedWrong)

/-- 'armplanlaw31.CutSmaller': WHATEVER THE INPUT: true; the input reads as it did. -/
def cutSmallerSpec : ChangeSpec := { name := "cutSmaller", fn := fun _ => fun
  | [d1, d2, d3, d4] => { results := [.lit (.bool true)], args := [d1, d2, d3, d4] }
  | _ => none }
def cutSmallerRow : OpenClaim := { program := "ytagmnknighofeaa", sum := "7f3f789b564b3b20f5c5c6993e5c9247d1564d5a0cf7aa81bbd10b3ac045dce0", func := "armplan/armplanlaw31.CutSmaller", spec := "cutSmaller", unfollowed := true, recurses := true, apart := false }
def CutSmallerSaid : Prop := cutSmallerRow.holds Try.pinned (OpenSpec.ofChange cutSmallerSpec)

/-- ITS FALSE NEIGHBOUR: 'it returns false'. Refute it at one input. -/
def cutSmallerWrong : ChangeSpec := { name := "cutSmaller", fn := fun _ => fun
  | [d1, d2, d3, d4] => { results := [.lit (.bool false)], args := [d1, d2, d3, d4] }
  | _ => none }
def CutSmallerWrongFalsely : Prop := cutSmallerRow.holds Try.pinned (OpenSpec.ofChange cutSmallerWrong)

/- THE SECOND FORM. 'bulk': how many values and letters a reading holds, each counted each time it is reached (what is shared counts as often as it is met; a slice's spare places count too). A statement '..UptoSaid' is the law's where the arguments, and the package variables that the reading takes, are together of bulk at most 1048576: NARROWER than '..Said'. Prove '..Said' where nothing that the law and all that it calls make is longer than what came in: it says more and counts as full. Else prove '..UptoSaid'. A law counts once. -/
mutual
def uptoBulk {H : Type} : DataW H → Nat
  | .lit (.string bytes) => bytes.length + 1
  | .lit _ => 1
  | .nil => 1
  | .ptr d => uptoBulk d + 1
  | .slice elems spare => uptoBulkAll elems + uptoBulkAll spare + 1
  | .agg parts => uptoBulkAll parts + 1
  | .iface _ d => uptoBulk d + 1
  | .map entries => uptoBulkEntries entries + 1
  | .held _ => 1
def uptoBulkAll {H : Type} : List (DataW H) → Nat
  | [] => 0
  | d :: r => uptoBulk d + uptoBulkAll r
def uptoBulkEntries {H : Type} : List (Lit × DataW H) → Nat
  | [] => 0
  | x :: r => uptoBulkEntry x + uptoBulkEntries r
def uptoBulkEntry {H : Type} : Lit × DataW H → Nat
  | (.string bytes, d) => bytes.length + uptoBulk d + 1
  | (_, d) => uptoBulk d + 1
 end
def uptoSmall : (H : Type) → List (DataW H) → Bool := fun _ ds => decide (uptoBulkAll ds ≤ 1048576)
def OpenSpec.upto (s : _root_.Go.ChangeSpec) : _root_.Go.OpenSpec := { _root_.Go.OpenSpec.ofChange s with cond := some uptoSmall }

/-- 'armplanlaw28.TreeValid', WHERE WHAT IT READS IS OF BULK AT MOST 1048576: true; the input reads as it did. -/
def treeValidUptoRow : OpenClaim := { program := "ytagmnknighofeaa", sum := "7f3f789b564b3b20f5c5c6993e5c9247d1564d5a0cf7aa81bbd10b3ac045dce0", func := "armplan/armplanlaw28.TreeValid", spec := "treeValid", unfollowed := true, recurses := true, apart := false, narrowed := true }
def TreeValidUptoSaid : Prop := treeValidUptoRow.holds Try.pinned (OpenSpec.upto treeValidSpec)

/-- 'armplanlaw28.TreeTiles', WHERE WHAT IT READS IS OF BULK AT MOST 1048576: true; the input reads as it did. -/
def treeTilesUptoRow : OpenClaim := { program := "ytagmnknighofeaa", sum := "7f3f789b564b3b20f5c5c6993e5c9247d1564d5a0cf7aa81bbd10b3ac045dce0", func := "armplan/armplanlaw28.TreeTiles", spec := "treeTiles", unfollowed := true, recurses := true, apart := false, narrowed := true }
def TreeTilesUptoSaid : Prop := treeTilesUptoRow.holds Try.pinned (OpenSpec.upto treeTilesSpec)

/-- 'armplanlaw28.TreeDisjoint', WHERE WHAT IT READS IS OF BULK AT MOST 1048576: true; the input reads as it did. -/
def treeDisjointUptoRow : OpenClaim := { program := "ytagmnknighofeaa", sum := "7f3f789b564b3b20f5c5c6993e5c9247d1564d5a0cf7aa81bbd10b3ac045dce0", func := "armplan/armplanlaw28.TreeDisjoint", spec := "treeDisjoint", unfollowed := true, recurses := true, apart := false, narrowed := true }
def TreeDisjointUptoSaid : Prop := treeDisjointUptoRow.holds Try.pinned (OpenSpec.upto treeDisjointSpec)

/-- 'armplanlaw28.TreeChanges', WHERE WHAT IT READS IS OF BULK AT MOST 1048576: true; the input reads as it did. -/
def treeChangesUptoRow : OpenClaim := { program := "ytagmnknighofeaa", sum := "7f3f789b564b3b20f5c5c6993e5c9247d1564d5a0cf7aa81bbd10b3ac045dce0", func := "armplan/armplanlaw28.TreeChanges", spec := "treeChanges", unfollowed := true, recurses := true, apart := false, narrowed := true }
def TreeChangesUptoSaid : Prop := treeChangesUptoRow.holds Try.pinned (OpenSpec.upto treeChangesSpec)

/-- 'armplanlaw28.TreeKeeps', WHERE WHAT IT READS IS OF BULK AT MOST 1048576: true; the input reads as it did. -/
def treeKeepsUptoRow : OpenClaim := { program := "ytagmnknighofeaa", sum := "7f3f789b564b3b20f5c5c6993e5c9247d1564d5a0cf7aa81bbd10b3ac045dce0", func := "armplan/armplanlaw28.TreeKeeps", spec := "treeKeeps", unfollowed := true, recurses := true, apart := false, narrowed := true }
def TreeKeepsUptoSaid : Prop := treeKeepsUptoRow.holds Try.pinned (OpenSpec.upto treeKeepsSpec)

/-- 'armplanlaw28.TreeLooks', WHERE WHAT IT READS IS OF BULK AT MOST 1048576: true; the input reads as it did. -/
def treeLooksUptoRow : OpenClaim := { program := "ytagmnknighofeaa", sum := "7f3f789b564b3b20f5c5c6993e5c9247d1564d5a0cf7aa81bbd10b3ac045dce0", func := "armplan/armplanlaw28.TreeLooks", spec := "treeLooks", unfollowed := true, recurses := true, apart := false, narrowed := true }
def TreeLooksUptoSaid : Prop := treeLooksUptoRow.holds Try.pinned (OpenSpec.upto treeLooksSpec)

/-- 'armplanlaw28.TreeNeighbors', WHERE WHAT IT READS IS OF BULK AT MOST 1048576: true; the input reads as it did. -/
def treeNeighborsUptoRow : OpenClaim := { program := "ytagmnknighofeaa", sum := "7f3f789b564b3b20f5c5c6993e5c9247d1564d5a0cf7aa81bbd10b3ac045dce0", func := "armplan/armplanlaw28.TreeNeighbors", spec := "treeNeighbors", unfollowed := true, recurses := true, apart := false, narrowed := true }
def TreeNeighborsUptoSaid : Prop := treeNeighborsUptoRow.holds Try.pinned (OpenSpec.upto treeNeighborsSpec)

/-- 'armplanlaw30.CorridorPoints', WHERE WHAT IT READS IS OF BULK AT MOST 1048576: true; the input reads as it did. -/
def corridorPointsUptoRow : OpenClaim := { program := "ytagmnknighofeaa", sum := "7f3f789b564b3b20f5c5c6993e5c9247d1564d5a0cf7aa81bbd10b3ac045dce0", func := "armplan/armplanlaw30.CorridorPoints", spec := "corridorPoints", unfollowed := true, recurses := true, apart := false, narrowed := true }
def CorridorPointsUptoSaid : Prop := corridorPointsUptoRow.holds Try.pinned (OpenSpec.upto corridorPointsSpec)

/-- 'armplanlaw30.CorridorInside', WHERE WHAT IT READS IS OF BULK AT MOST 1048576: true; the input reads as it did. -/
def corridorInsideUptoRow : OpenClaim := { program := "ytagmnknighofeaa", sum := "7f3f789b564b3b20f5c5c6993e5c9247d1564d5a0cf7aa81bbd10b3ac045dce0", func := "armplan/armplanlaw30.CorridorInside", spec := "corridorInside", unfollowed := true, recurses := true, apart := false, narrowed := true }
def CorridorInsideUptoSaid : Prop := corridorInsideUptoRow.holds Try.pinned (OpenSpec.upto corridorInsideSpec)

/-- 'armplanlaw30.CorridorNearest', WHERE WHAT IT READS IS OF BULK AT MOST 1048576: true; the input reads as it did. -/
def corridorNearestUptoRow : OpenClaim := { program := "ytagmnknighofeaa", sum := "7f3f789b564b3b20f5c5c6993e5c9247d1564d5a0cf7aa81bbd10b3ac045dce0", func := "armplan/armplanlaw30.CorridorNearest", spec := "corridorNearest", unfollowed := true, recurses := true, apart := false, narrowed := true }
def CorridorNearestUptoSaid : Prop := corridorNearestUptoRow.holds Try.pinned (OpenSpec.upto corridorNearestSpec)

/-- 'armplanlaw31.CutMeets', WHERE WHAT IT READS IS OF BULK AT MOST 1048576: true; the input reads as it did. -/
def cutMeetsUptoRow : OpenClaim := { program := "ytagmnknighofeaa", sum := "7f3f789b564b3b20f5c5c6993e5c9247d1564d5a0cf7aa81bbd10b3ac045dce0", func := "armplan/armplanlaw31.CutMeets", spec := "cutMeets", unfollowed := true, recurses := true, apart := false, narrowed := true }
def CutMeetsUptoSaid : Prop := cutMeetsUptoRow.holds Try.pinned (OpenSpec.upto cutMeetsSpec)

/-- 'armplanlaw31.CutTopology', WHERE WHAT IT READS IS OF BULK AT MOST 1048576: true; the input reads as it did. -/
def cutTopologyUptoRow : OpenClaim := { program := "ytagmnknighofeaa", sum := "7f3f789b564b3b20f5c5c6993e5c9247d1564d5a0cf7aa81bbd10b3ac045dce0", func := "armplan/armplanlaw31.CutTopology", spec := "cutTopology", unfollowed := true, recurses := true, apart := false, narrowed := true }
def CutTopologyUptoSaid : Prop := cutTopologyUptoRow.holds Try.pinned (OpenSpec.upto cutTopologySpec)

/-- 'armplanlaw31.CutFirst', WHERE WHAT IT READS IS OF BULK AT MOST 1048576: true; the input reads as it did. -/
def cutFirstUptoRow : OpenClaim := { program := "ytagmnknighofeaa", sum := "7f3f789b564b3b20f5c5c6993e5c9247d1564d5a0cf7aa81bbd10b3ac045dce0", func := "armplan/armplanlaw31.CutFirst", spec := "cutFirst", unfollowed := true, recurses := true, apart := false, narrowed := true }
def CutFirstUptoSaid : Prop := cutFirstUptoRow.holds Try.pinned (OpenSpec.upto cutFirstSpec)

/-- 'armplanlaw31.CutFloods', WHERE WHAT IT READS IS OF BULK AT MOST 1048576: true; the input reads as it did. -/
def cutFloodsUptoRow : OpenClaim := { program := "ytagmnknighofeaa", sum := "7f3f789b564b3b20f5c5c6993e5c9247d1564d5a0cf7aa81bbd10b3ac045dce0", func := "armplan/armplanlaw31.CutFloods", spec := "cutFloods", unfollowed := true, recurses := true, apart := false, narrowed := true }
def CutFloodsUptoSaid : Prop := cutFloodsUptoRow.holds Try.pinned (OpenSpec.upto cutFloodsSpec)

/-- 'armplanlaw31.CutReached', WHERE WHAT IT READS IS OF BULK AT MOST 1048576: true; the input reads as it did. -/
def cutReachedUptoRow : OpenClaim := { program := "ytagmnknighofeaa", sum := "7f3f789b564b3b20f5c5c6993e5c9247d1564d5a0cf7aa81bbd10b3ac045dce0", func := "armplan/armplanlaw31.CutReached", spec := "cutReached", unfollowed := true, recurses := true, apart := false, narrowed := true }
def CutReachedUptoSaid : Prop := cutReachedUptoRow.holds Try.pinned (OpenSpec.upto cutReachedSpec)

/-- 'armplanlaw31.CutSmaller', WHERE WHAT IT READS IS OF BULK AT MOST 1048576: true; the input reads as it did. -/
def cutSmallerUptoRow : OpenClaim := { program := "ytagmnknighofeaa", sum := "7f3f789b564b3b20f5c5c6993e5c9247d1564d5a0cf7aa81bbd10b3ac045dce0", func := "armplan/armplanlaw31.CutSmaller", spec := "cutSmaller", unfollowed := true, recurses := true, apart := false, narrowed := true }
def CutSmallerUptoSaid : Prop := cutSmallerUptoRow.holds Try.pinned (OpenSpec.upto cutSmallerSpec)

end Rows
end Go.Proofs.Ytagmnknighofeaa
