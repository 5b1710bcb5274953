/-
  No cell of these rows narrows 'for every input' (looked for: loops, veiled, ifaces, maps, wideKeys, modest, calm, conditions, laid).
  DERIVED. THE GIVEN ROWS OF THIS SEAT. 5 by the template 'for every input the law returns true; each argument reads behind the call as it read before'; 0 by the template 'total and deterministic' (their statements: YtkjjgiigiiokoaaTotals.lean).
  GIVEN WITH THE SEED: the statements are not yours to turn. If you find one false, say at which input.
  Laid BY PROGRAM, IN A SANDBOX (cutbox-rows.mjs): the forced cells as the released guide's own fill.sh prints them over the translation 5f5365eaba5c32f4… (all of the seat's roots in one cut). By AI agents, Wed Nov 11 2026. No macro, syntax, notation, axiom, sorry.
-/
import Derived.Test.YtkjjgiigiiokoaaChecked
import GoSem.Claim
import GoSem.ClaimJoined
import GoSem.ClaimMapViews
import Derived.JoinedTies
import Derived.KernelRfl
namespace Go.Proofs.Ytkjjgiigiiokoaa
/- THE CELL 'sum', in the pinned program and in every row, IS THE sha256 OF THE DUMP (.gsa) THAT YtkjjgiigiiokoaaProg.lean LOADS. Nothing in Lean hashes anything: it is a label: what it is worth is what the hold of that sum in a sandbox is worth. -/
noncomputable def Try.pinned : Pinned := { name := "ytkjjgiigiiokoaa", sum := "5f5365eaba5c32f47894f14f2a551ff1f2f7b1f5451795b9d0f6669a73eab8a2", checked := Try.checked }
namespace Rows
def none {H : Type} : Left H := { results := [], args := [] }

/-- 'armplanlaw36.PriorityValid': WHATEVER THE INPUT: true; the input reads as it did. -/
def priorityValidSpec : ChangeSpec := { name := "priorityValid", fn := fun _ => fun
  | [d1, d2, d3, d4, d5, d6, d7, d8, d9] => { results := [.lit (.bool true)], args := [d1, d2, d3, d4, d5, d6, d7, d8, d9] }
  | _ => none }
def priorityValidRow : OpenClaim := { program := "ytkjjgiigiiokoaa", sum := "5f5365eaba5c32f47894f14f2a551ff1f2f7b1f5451795b9d0f6669a73eab8a2", func := "armplan/armplanlaw36.PriorityValid", spec := "priorityValid", unfollowed := true, recurses := true, plainKeys := false, apart := false }
def PriorityValidSaid : Prop := priorityValidRow.holds Try.pinned (OpenSpec.ofChange priorityValidSpec)

/-- ITS FALSE NEIGHBOUR: 'it returns false'. Refute it at one input. -/
def priorityValidWrong : ChangeSpec := { name := "priorityValid", fn := fun _ => fun
  | [d1, d2, d3, d4, d5, d6, d7, d8, d9] => { results := [.lit (.bool false)], args := [d1, d2, d3, d4, d5, d6, d7, d8, d9] }
  | _ => none }
def PriorityValidWrongFalsely : Prop := priorityValidRow.holds Try.pinned (OpenSpec.ofChange priorityValidWrong)

/-- 'armplanlaw36.PriorityPlans': WHATEVER THE INPUT: true; the input reads as it did. -/
def priorityPlansSpec : ChangeSpec := { name := "priorityPlans", fn := fun _ => fun
  | [d1, d2, d3, d4, d5, d6, d7, d8, d9] => { results := [.lit (.bool true)], args := [d1, d2, d3, d4, d5, d6, d7, d8, d9] }
  | _ => none }
def priorityPlansRow : OpenClaim := { program := "ytkjjgiigiiokoaa", sum := "5f5365eaba5c32f47894f14f2a551ff1f2f7b1f5451795b9d0f6669a73eab8a2", func := "armplan/armplanlaw36.PriorityPlans", spec := "priorityPlans", unfollowed := true, recurses := true, plainKeys := false, apart := false }
def PriorityPlansSaid : Prop := priorityPlansRow.holds Try.pinned (OpenSpec.ofChange priorityPlansSpec)

/-- ITS FALSE NEIGHBOUR: 'it returns false'. Refute it at one input. -/
def priorityPlansWrong : ChangeSpec := { name := "priorityPlans", fn := fun _ => fun
  | [d1, d2, d3, d4, d5, d6, d7, d8, d9] => { results := [.lit (.bool false)], args := [d1, d2, d3, d4, d5, d6, d7, d8, d9] }
  | _ => none }
def PriorityPlansWrongFalsely : Prop := priorityPlansRow.holds Try.pinned (OpenSpec.ofChange priorityPlansWrong)

/-- 'armplanlaw36.PriorityAccepted': WHATEVER THE INPUT: true; the input reads as it did. -/
def priorityAcceptedSpec : ChangeSpec := { name := "priorityAccepted", fn := fun _ => fun
  | [d1, d2, d3, d4, d5] => { results := [.lit (.bool true)], args := [d1, d2, d3, d4, d5] }
  | _ => none }
def priorityAcceptedRow : OpenClaim := { program := "ytkjjgiigiiokoaa", sum := "5f5365eaba5c32f47894f14f2a551ff1f2f7b1f5451795b9d0f6669a73eab8a2", func := "armplan/armplanlaw36.PriorityAccepted", spec := "priorityAccepted", unfollowed := true, recurses := true, plainKeys := false, apart := false }
def PriorityAcceptedSaid : Prop := priorityAcceptedRow.holds Try.pinned (OpenSpec.ofChange priorityAcceptedSpec)

/-- ITS FALSE NEIGHBOUR: 'it returns false'. Refute it at one input. -/
def priorityAcceptedWrong : ChangeSpec := { name := "priorityAccepted", fn := fun _ => fun
  | [d1, d2, d3, d4, d5] => { results := [.lit (.bool false)], args := [d1, d2, d3, d4, d5] }
  | _ => none }
def PriorityAcceptedWrongFalsely : Prop := priorityAcceptedRow.holds Try.pinned (OpenSpec.ofChange priorityAcceptedWrong)

/-- 'armplanlaw36.PriorityFirst': WHATEVER THE INPUT: true; the input reads as it did. -/
def priorityFirstSpec : ChangeSpec := { name := "priorityFirst", fn := fun _ => fun
  | [d1, d2, d3, d4] => { results := [.lit (.bool true)], args := [d1, d2, d3, d4] }
  | _ => none }
def priorityFirstRow : OpenClaim := { program := "ytkjjgiigiiokoaa", sum := "5f5365eaba5c32f47894f14f2a551ff1f2f7b1f5451795b9d0f6669a73eab8a2", func := "armplan/armplanlaw36.PriorityFirst", spec := "priorityFirst", unfollowed := true, recurses := true, plainKeys := false, apart := false }
def PriorityFirstSaid : Prop := priorityFirstRow.holds Try.pinned (OpenSpec.ofChange priorityFirstSpec)

/-- ITS FALSE NEIGHBOUR: 'it returns false'. Refute it at one input. -/
def priorityFirstWrong : ChangeSpec := { name := "priorityFirst", fn := fun _ => fun
  | [d1, d2, d3, d4] => { results := [.lit (.bool false)], args := [d1, d2, d3, d4] }
  | _ => none }
def PriorityFirstWrongFalsely : Prop := priorityFirstRow.holds Try.pinned (OpenSpec.ofChange priorityFirstWrong)

/-- 'armplanlaw36.PriorityAlone': WHATEVER THE INPUT: true; the input reads as it did. -/
def priorityAloneSpec : ChangeSpec := { name := "priorityAlone", fn := fun _ => fun
  | [d1, d2, d3, d4] => { results := [.lit (.bool true)], args := [d1, d2, d3, d4] }
  | _ => none }
def priorityAloneRow : OpenClaim := { program := "ytkjjgiigiiokoaa", sum := "5f5365eaba5c32f47894f14f2a551ff1f2f7b1f5451795b9d0f6669a73eab8a2", func := "armplan/armplanlaw36.PriorityAlone", spec := "priorityAlone", unfollowed := true, recurses := true, plainKeys := false, apart := false }
def PriorityAloneSaid : Prop := priorityAloneRow.holds Try.pinned (OpenSpec.ofChange priorityAloneSpec)

/-- ITS FALSE NEIGHBOUR: 'it returns false'. Refute it at one input. -/
def priorityAloneWrong : ChangeSpec := { name := "priorityAlone", fn := fun _ => fun
  | [d1, d2, d3, d4] => { results := [.lit (.bool false)], args := [d1, d2, d3, d4] }
  | _ => none }
def PriorityAloneWrongFalsely : Prop := priorityAloneRow.holds Try.pinned (OpenSpec.ofChange priorityAloneWrong)

/- THE SECOND FORM. 'bulk': how many values and letters a reading holds, each counted each time it is reached (what is shared counts as often as it is met; a slice's spare places count too). A statement '..UptoSaid' is the law's where the arguments, and the package variables that the reading takes, are together of bulk at most 1048576: NARROWER than '..Said'. Prove '..Said' where nothing that the law and all that it calls make is longer than what came in: it says more and counts as full. Else prove '..UptoSaid'. A law counts once. -/
mutual
def uptoBulk {H : Type} : DataW H → Nat
  | .lit (.string bytes) => bytes.length + 1
  | .lit _ => 1
  | .nil => 1
  | .ptr d => uptoBulk d + 1
  | .slice elems spare => uptoBulkAll elems + uptoBulkAll spare + 1
  | .agg parts => uptoBulkAll parts + 1
  | .iface _ d => uptoBulk d + 1
  | .map entries => uptoBulkEntries entries + 1
  | .held _ => 1
def uptoBulkAll {H : Type} : List (DataW H) → Nat
  | [] => 0
  | d :: r => uptoBulk d + uptoBulkAll r
def uptoBulkEntries {H : Type} : List (Lit × DataW H) → Nat
  | [] => 0
  | x :: r => uptoBulkEntry x + uptoBulkEntries r
def uptoBulkEntry {H : Type} : Lit × DataW H → Nat
  | (.string bytes, d) => bytes.length + uptoBulk d + 1
  | (_, d) => uptoBulk d + 1
 end
def uptoSmall : (H : Type) → List (DataW H) → Bool := fun _ ds => decide (uptoBulkAll ds ≤ 1048576)
def OpenSpec.upto (s : _root_.Go.ChangeSpec) : _root_.Go.OpenSpec := { _root_.Go.OpenSpec.ofChange s with cond := some uptoSmall }

/-- 'armplanlaw36.PriorityValid', WHERE WHAT IT READS IS OF BULK AT MOST 1048576: true; the input reads as it did. -/
def priorityValidUptoRow : OpenClaim := { program := "ytkjjgiigiiokoaa", sum := "5f5365eaba5c32f47894f14f2a551ff1f2f7b1f5451795b9d0f6669a73eab8a2", func := "armplan/armplanlaw36.PriorityValid", spec := "priorityValid", unfollowed := true, recurses := true, plainKeys := false, apart := false, narrowed := true }
def PriorityValidUptoSaid : Prop := priorityValidUptoRow.holds Try.pinned (OpenSpec.upto priorityValidSpec)

/-- 'armplanlaw36.PriorityPlans', WHERE WHAT IT READS IS OF BULK AT MOST 1048576: true; the input reads as it did. -/
def priorityPlansUptoRow : OpenClaim := { program := "ytkjjgiigiiokoaa", sum := "5f5365eaba5c32f47894f14f2a551ff1f2f7b1f5451795b9d0f6669a73eab8a2", func := "armplan/armplanlaw36.PriorityPlans", spec := "priorityPlans", unfollowed := true, recurses := true, plainKeys := false, apart := false, narrowed := true }
def PriorityPlansUptoSaid : Prop := priorityPlansUptoRow.holds Try.pinned (OpenSpec.upto priorityPlansSpec)

/-- 'armplanlaw36.PriorityAccepted', WHERE WHAT IT READS IS OF BULK AT MOST 1048576: true; the input reads as it did. -/
def priorityAcceptedUptoRow : OpenClaim := { program := "ytkjjgiigiiokoaa", sum := "5f5365eaba5c32f47894f14f2a551ff1f2f7b1f5451795b9d0f6669a73eab8a2", func := "armplan/armplanlaw36.PriorityAccepted", spec := "priorityAccepted", unfollowed := true, recurses := true, plainKeys := false, apart := false, narrowed := true }
def PriorityAcceptedUptoSaid : Prop := priorityAcceptedUptoRow.holds Try.pinned (OpenSpec.upto priorityAcceptedSpec)

/-- 'armplanlaw36.PriorityFirst', WHERE WHAT IT READS IS OF BULK AT MOST 1048576: true; the input reads as it did. -/
def priorityFirstUptoRow : OpenClaim := { program := "ytkjjgiigiiokoaa", sum := "5f5365eaba5c32f47894f14f2a551ff1f2f7b1f5451795b9d0f6669a73eab8a2", func := "armplan/armplanlaw36.PriorityFirst", spec := "priorityFirst", unfollowed := true, recurses := true, plainKeys := false, apart := false, narrowed := true }
def PriorityFirstUptoSaid : Prop := priorityFirstUptoRow.holds Try.pinned (OpenSpec.upto priorityFirstSpec)

/-- 'armplanlaw36.PriorityAlone', WHERE WHAT IT READS IS OF BULK AT MOST 1048576: true; the input reads as it did. -/
def priorityAloneUptoRow : OpenClaim := { program := "ytkjjgiigiiokoaa", sum := "5f5365eaba5c32f47894f14f2a551ff1f2f7b1f5451795b9d0f6669a73eab8a2", func := "armplan/armplanlaw36.PriorityAlone", spec := "priorityAlone", unfollowed := true, recurses := true, plainKeys := false, apart := false, narrowed := true }
def PriorityAloneUptoSaid : Prop := priorityAloneUptoRow.holds Try.pinned (OpenSpec.upto priorityAloneSpec)

end Rows
end Go.Proofs.Ytkjjgiigiiokoaa
