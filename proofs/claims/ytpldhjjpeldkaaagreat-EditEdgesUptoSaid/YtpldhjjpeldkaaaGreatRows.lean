/-
  No cell of these rows narrows 'for every input' (looked for: loops, veiled, ifaces, maps, wideKeys, modest, calm, conditions, laid).
  DERIVED. THE GIVEN ROWS OF THIS SEAT. 9 by the template 'for every input the law returns true; each argument reads behind the call as it read before'; 0 by the template 'total and deterministic' (their statements: YtpldhjjpeldkaaaGreatTotals.lean).
  GIVEN WITH THE SEED: the statements are not yours to turn. If you find one false, say at which input.
  Laid BY PROGRAM, IN A SANDBOX (cutbox-rows.mjs): the forced cells as the released guide's own fill.sh prints them over the translation 52e37aaab4673fb2… (all of the seat's roots in one cut). By AI agents, Wed Nov 11 2026. No macro, syntax, notation, axiom, sorry.
-/
import Derived.Test.YtpldhjjpeldkaaaGreatChecked
import GoSem.Claim
import GoSem.ClaimJoined
import GoSem.ClaimMapViews
import Derived.JoinedTies
import Derived.KernelRfl
namespace Go.Proofs.YtpldhjjpeldkaaaGreat
/- THE CELL 'sum', in the pinned program and in every row, IS THE sha256 OF THE DUMP (.gsa) THAT YtpldhjjpeldkaaaGreatProg.lean LOADS. Nothing in Lean hashes anything: it is a label: what it is worth is what the hold of that sum in a sandbox is worth. -/
noncomputable def Tryz.pinned : Pinned := { name := "ytpldhjjpeldkaaagreat", sum := "52e37aaab4673fb2e69d841b2686a34e8385ef4305815c00dd2656933d0cdc0d", checked := Tryz.checked }
namespace Rows
def none {H : Type} : Left H := { results := [], args := [] }

/-- 'tracerylaw12.EditOne': WHATEVER THE INPUT: true; the input reads as it did. -/
def editOneSpec : ChangeSpec := { name := "editOne", fn := fun _ => fun
  | [d1, d2] => { results := [.lit (.bool true)], args := [d1, d2] }
  | _ => none }
def editOneRow : OpenClaim := { program := "ytpldhjjpeldkaaagreat", sum := "52e37aaab4673fb2e69d841b2686a34e8385ef4305815c00dd2656933d0cdc0d", func := "tracery/tracerylaw12.EditOne", spec := "editOne", inPlace := ["slices.overlaps[tracery/api.Vertex]", "slices.overlaps[tracery/api.Edge]", "slices.overlaps[tracery/api.Gone]"], unfollowed := true, recurses := true, plainKeys := false, apart := false }
def EditOneSaid : Prop := editOneRow.holds Tryz.pinned (OpenSpec.ofChange editOneSpec)

/-- ITS FALSE NEIGHBOUR: 'it returns false'. Refute it at one input. -/
def editOneWrong : ChangeSpec := { name := "editOne", fn := fun _ => fun
  | [d1, d2] => { results := [.lit (.bool false)], args := [d1, d2] }
  | _ => none }
def EditOneWrongFalsely : Prop := editOneRow.holds Tryz.pinned (OpenSpec.ofChange editOneWrong)

/-- 'tracerylaw12.EditVertices': WHATEVER THE INPUT: true; the input reads as it did. -/
def editVerticesSpec : ChangeSpec := { name := "editVertices", fn := fun _ => fun
  | [d1, d2] => { results := [.lit (.bool true)], args := [d1, d2] }
  | _ => none }
def editVerticesRow : OpenClaim := { program := "ytpldhjjpeldkaaagreat", sum := "52e37aaab4673fb2e69d841b2686a34e8385ef4305815c00dd2656933d0cdc0d", func := "tracery/tracerylaw12.EditVertices", spec := "editVertices", inPlace := ["slices.overlaps[tracery/api.Vertex]", "slices.overlaps[tracery/api.Edge]", "slices.overlaps[tracery/api.Gone]"], unfollowed := true, recurses := true, plainKeys := false, apart := false }
def EditVerticesSaid : Prop := editVerticesRow.holds Tryz.pinned (OpenSpec.ofChange editVerticesSpec)

/-- ITS FALSE NEIGHBOUR: 'it returns false'. Refute it at one input. -/
def editVerticesWrong : ChangeSpec := { name := "editVertices", fn := fun _ => fun
  | [d1, d2] => { results := [.lit (.bool false)], args := [d1, d2] }
  | _ => none }
def EditVerticesWrongFalsely : Prop := editVerticesRow.holds Tryz.pinned (OpenSpec.ofChange editVerticesWrong)

/-- 'tracerylaw12.EditEdges': WHATEVER THE INPUT: true; the input reads as it did. -/
def editEdgesSpec : ChangeSpec := { name := "editEdges", fn := fun _ => fun
  | [d1, d2, d3] => { results := [.lit (.bool true)], args := [d1, d2, d3] }
  | _ => none }
def editEdgesRow : OpenClaim := { program := "ytpldhjjpeldkaaagreat", sum := "52e37aaab4673fb2e69d841b2686a34e8385ef4305815c00dd2656933d0cdc0d", func := "tracery/tracerylaw12.EditEdges", spec := "editEdges", inPlace := ["slices.overlaps[tracery/api.Vertex]", "slices.overlaps[tracery/api.Edge]", "slices.overlaps[tracery/api.Gone]"], unfollowed := true, recurses := true, plainKeys := false, apart := false }
def EditEdgesSaid : Prop := editEdgesRow.holds Tryz.pinned (OpenSpec.ofChange editEdgesSpec)

/-- ITS FALSE NEIGHBOUR: 'it returns false'. Refute it at one input. -/
def editEdgesWrong : ChangeSpec := { name := "editEdges", fn := fun _ => fun
  | [d1, d2, d3] => { results := [.lit (.bool false)], args := [d1, d2, d3] }
  | _ => none }
def EditEdgesWrongFalsely : Prop := editEdgesRow.holds Tryz.pinned (OpenSpec.ofChange editEdgesWrong)

/-- 'tracerylaw12.EditSplits': WHATEVER THE INPUT: true; the input reads as it did. -/
def editSplitsSpec : ChangeSpec := { name := "editSplits", fn := fun _ => fun
  | [d1, d2, d3] => { results := [.lit (.bool true)], args := [d1, d2, d3] }
  | _ => none }
def editSplitsRow : OpenClaim := { program := "ytpldhjjpeldkaaagreat", sum := "52e37aaab4673fb2e69d841b2686a34e8385ef4305815c00dd2656933d0cdc0d", func := "tracery/tracerylaw12.EditSplits", spec := "editSplits", inPlace := ["slices.overlaps[tracery/api.Vertex]", "slices.overlaps[tracery/api.Edge]", "slices.overlaps[tracery/api.Gone]"], unfollowed := true, recurses := true, plainKeys := false, apart := false }
def EditSplitsSaid : Prop := editSplitsRow.holds Tryz.pinned (OpenSpec.ofChange editSplitsSpec)

/-- ITS FALSE NEIGHBOUR: 'it returns false'. Refute it at one input. -/
def editSplitsWrong : ChangeSpec := { name := "editSplits", fn := fun _ => fun
  | [d1, d2, d3] => { results := [.lit (.bool false)], args := [d1, d2, d3] }
  | _ => none }
def EditSplitsWrongFalsely : Prop := editSplitsRow.holds Tryz.pinned (OpenSpec.ofChange editSplitsWrong)

/-- 'tracerylaw12.EditSets': WHATEVER THE INPUT: true; the input reads as it did. -/
def editSetsSpec : ChangeSpec := { name := "editSets", fn := fun _ => fun
  | [d1, d2, d3] => { results := [.lit (.bool true)], args := [d1, d2, d3] }
  | _ => none }
def editSetsRow : OpenClaim := { program := "ytpldhjjpeldkaaagreat", sum := "52e37aaab4673fb2e69d841b2686a34e8385ef4305815c00dd2656933d0cdc0d", func := "tracery/tracerylaw12.EditSets", spec := "editSets", inPlace := ["slices.overlaps[tracery/api.Vertex]", "slices.overlaps[tracery/api.Edge]", "slices.overlaps[tracery/api.Gone]"], unfollowed := true, recurses := true, plainKeys := false, apart := false }
def EditSetsSaid : Prop := editSetsRow.holds Tryz.pinned (OpenSpec.ofChange editSetsSpec)

/-- ITS FALSE NEIGHBOUR: 'it returns false'. Refute it at one input. -/
def editSetsWrong : ChangeSpec := { name := "editSets", fn := fun _ => fun
  | [d1, d2, d3] => { results := [.lit (.bool false)], args := [d1, d2, d3] }
  | _ => none }
def EditSetsWrongFalsely : Prop := editSetsRow.holds Tryz.pinned (OpenSpec.ofChange editSetsWrong)

/-- 'tracerylaw12.EditLeaves': WHATEVER THE INPUT: true; the input reads as it did. -/
def editLeavesSpec : ChangeSpec := { name := "editLeaves", fn := fun _ => fun
  | [d1, d2] => { results := [.lit (.bool true)], args := [d1, d2] }
  | _ => none }
def editLeavesRow : OpenClaim := { program := "ytpldhjjpeldkaaagreat", sum := "52e37aaab4673fb2e69d841b2686a34e8385ef4305815c00dd2656933d0cdc0d", func := "tracery/tracerylaw12.EditLeaves", spec := "editLeaves", inPlace := ["slices.overlaps[tracery/api.Vertex]", "slices.overlaps[tracery/api.Edge]", "slices.overlaps[tracery/api.Gone]"], unfollowed := true, recurses := true, plainKeys := false, apart := false }
def EditLeavesSaid : Prop := editLeavesRow.holds Tryz.pinned (OpenSpec.ofChange editLeavesSpec)

/-- ITS FALSE NEIGHBOUR: 'it returns false'. Refute it at one input. -/
def editLeavesWrong : ChangeSpec := { name := "editLeaves", fn := fun _ => fun
  | [d1, d2] => { results := [.lit (.bool false)], args := [d1, d2] }
  | _ => none }
def EditLeavesWrongFalsely : Prop := editLeavesRow.holds Tryz.pinned (OpenSpec.ofChange editLeavesWrong)

/-- 'tracerylaw12.EditRows': WHATEVER THE INPUT: true; the input reads as it did. -/
def editRowsSpec : ChangeSpec := { name := "editRows", fn := fun _ => fun
  | [d] => { results := [.lit (.bool true)], args := [d] }
  | _ => none }
def editRowsRow : OpenClaim := { program := "ytpldhjjpeldkaaagreat", sum := "52e37aaab4673fb2e69d841b2686a34e8385ef4305815c00dd2656933d0cdc0d", func := "tracery/tracerylaw12.EditRows", spec := "editRows", inPlace := ["slices.overlaps[tracery/api.Vertex]", "slices.overlaps[tracery/api.Edge]", "slices.overlaps[tracery/api.Gone]"], unfollowed := true, recurses := true, plainKeys := false, apart := false }
def EditRowsSaid : Prop := editRowsRow.holds Tryz.pinned (OpenSpec.ofChange editRowsSpec)

/-- ITS FALSE NEIGHBOUR: 'it returns false'. Refute it at one input. -/
def editRowsWrong : ChangeSpec := { name := "editRows", fn := fun _ => fun
  | [d] => { results := [.lit (.bool false)], args := [d] }
  | _ => none }
def EditRowsWrongFalsely : Prop := editRowsRow.holds Tryz.pinned (OpenSpec.ofChange editRowsWrong)

/-- 'tracerylaw12.EditPlane': WHATEVER THE INPUT: true; the input reads as it did. -/
def editPlaneSpec : ChangeSpec := { name := "editPlane", fn := fun _ => fun
  | [d] => { results := [.lit (.bool true)], args := [d] }
  | _ => none }
def editPlaneRow : OpenClaim := { program := "ytpldhjjpeldkaaagreat", sum := "52e37aaab4673fb2e69d841b2686a34e8385ef4305815c00dd2656933d0cdc0d", func := "tracery/tracerylaw12.EditPlane", spec := "editPlane", inPlace := ["slices.overlaps[tracery/api.Vertex]", "slices.overlaps[tracery/api.Edge]", "slices.overlaps[tracery/api.Gone]"], unfollowed := true, recurses := true, plainKeys := false, apart := false }
def EditPlaneSaid : Prop := editPlaneRow.holds Tryz.pinned (OpenSpec.ofChange editPlaneSpec)

/-- ITS FALSE NEIGHBOUR: 'it returns false'. Refute it at one input. -/
def editPlaneWrong : ChangeSpec := { name := "editPlane", fn := fun _ => fun
  | [d] => { results := [.lit (.bool false)], args := [d] }
  | _ => none }
def EditPlaneWrongFalsely : Prop := editPlaneRow.holds Tryz.pinned (OpenSpec.ofChange editPlaneWrong)

/-- 'tracerylaw12.EditWhole': WHATEVER THE INPUT: true; the input reads as it did. -/
def editWholeSpec : ChangeSpec := { name := "editWhole", fn := fun _ => fun
  | [d1, d2] => { results := [.lit (.bool true)], args := [d1, d2] }
  | _ => none }
def editWholeRow : OpenClaim := { program := "ytpldhjjpeldkaaagreat", sum := "52e37aaab4673fb2e69d841b2686a34e8385ef4305815c00dd2656933d0cdc0d", func := "tracery/tracerylaw12.EditWhole", spec := "editWhole", inPlace := ["slices.overlaps[tracery/api.Vertex]", "slices.overlaps[tracery/api.Edge]", "slices.overlaps[tracery/api.Gone]"], unfollowed := true, recurses := true, plainKeys := false, apart := false }
def EditWholeSaid : Prop := editWholeRow.holds Tryz.pinned (OpenSpec.ofChange editWholeSpec)

/-- ITS FALSE NEIGHBOUR: 'it returns false'. Refute it at one input. -/
def editWholeWrong : ChangeSpec := { name := "editWhole", fn := fun _ => fun
  | [d1, d2] => { results := [.lit (.bool false)], args := [d1, d2] }
  | _ => none }
def EditWholeWrongFalsely : Prop := editWholeRow.holds Tryz.pinned (OpenSpec.ofChange editWholeWrong)

/- THE SECOND FORM. 'bulk': how many values and letters a reading holds, each counted each time it is reached (what is shared counts as often as it is met; a slice's spare places count too). A statement '..UptoSaid' is the law's where the arguments, and the package variables that the reading takes, are together of bulk at most 1048576: NARROWER than '..Said'. Prove '..Said' where nothing that the law and all that it calls make is longer than what came in: it says more and counts as full. Else prove '..UptoSaid'. A law counts once. -/
mutual
def uptoBulk {H : Type} : DataW H → Nat
  | .lit (.string bytes) => bytes.length + 1
  | .lit _ => 1
  | .nil => 1
  | .ptr d => uptoBulk d + 1
  | .slice elems spare => uptoBulkAll elems + uptoBulkAll spare + 1
  | .agg parts => uptoBulkAll parts + 1
  | .iface _ d => uptoBulk d + 1
  | .map entries => uptoBulkEntries entries + 1
  | .held _ => 1
def uptoBulkAll {H : Type} : List (DataW H) → Nat
  | [] => 0
  | d :: r => uptoBulk d + uptoBulkAll r
def uptoBulkEntries {H : Type} : List (Lit × DataW H) → Nat
  | [] => 0
  | x :: r => uptoBulkEntry x + uptoBulkEntries r
def uptoBulkEntry {H : Type} : Lit × DataW H → Nat
  | (.string bytes, d) => bytes.length + uptoBulk d + 1
  | (_, d) => uptoBulk d + 1
 end
def uptoSmall : (H : Type) → List (DataW H) → Bool := fun _ ds => decide (uptoBulkAll ds ≤ 1048576)
def OpenSpec.upto (s : _root_.Go.ChangeSpec) : _root_.Go.OpenSpec := { _root_.Go.OpenSpec.ofChange s with cond := some uptoSmall }

/-- 'tracerylaw12.EditOne', WHERE WHAT IT READS IS OF BULK AT MOST 1048576: true; the input reads as it did. -/
def editOneUptoRow : OpenClaim := { program := "ytpldhjjpeldkaaagreat", sum := "52e37aaab4673fb2e69d841b2686a34e8385ef4305815c00dd2656933d0cdc0d", func := "tracery/tracerylaw12.EditOne", spec := "editOne", inPlace := ["slices.overlaps[tracery/api.Vertex]", "slices.overlaps[tracery/api.Edge]", "slices.overlaps[tracery/api.Gone]"], unfollowed := true, recurses := true, plainKeys := false, apart := false, narrowed := true }
def EditOneUptoSaid : Prop := editOneUptoRow.holds Tryz.pinned (OpenSpec.upto editOneSpec)

/-- 'tracerylaw12.EditVertices', WHERE WHAT IT READS IS OF BULK AT MOST 1048576: true; the input reads as it did. -/
def editVerticesUptoRow : OpenClaim := { program := "ytpldhjjpeldkaaagreat", sum := "52e37aaab4673fb2e69d841b2686a34e8385ef4305815c00dd2656933d0cdc0d", func := "tracery/tracerylaw12.EditVertices", spec := "editVertices", inPlace := ["slices.overlaps[tracery/api.Vertex]", "slices.overlaps[tracery/api.Edge]", "slices.overlaps[tracery/api.Gone]"], unfollowed := true, recurses := true, plainKeys := false, apart := false, narrowed := true }
def EditVerticesUptoSaid : Prop := editVerticesUptoRow.holds Tryz.pinned (OpenSpec.upto editVerticesSpec)

/-- 'tracerylaw12.EditEdges', WHERE WHAT IT READS IS OF BULK AT MOST 1048576: true; the input reads as it did. -/
def editEdgesUptoRow : OpenClaim := { program := "ytpldhjjpeldkaaagreat", sum := "52e37aaab4673fb2e69d841b2686a34e8385ef4305815c00dd2656933d0cdc0d", func := "tracery/tracerylaw12.EditEdges", spec := "editEdges", inPlace := ["slices.overlaps[tracery/api.Vertex]", "slices.overlaps[tracery/api.Edge]", "slices.overlaps[tracery/api.Gone]"], unfollowed := true, recurses := true, plainKeys := false, apart := false, narrowed := true }
def EditEdgesUptoSaid : Prop := editEdgesUptoRow.holds Tryz.pinned (OpenSpec.upto editEdgesSpec)

/-- 'tracerylaw12.EditSplits', WHERE WHAT IT READS IS OF BULK AT MOST 1048576: true; the input reads as it did. -/
def editSplitsUptoRow : OpenClaim := { program := "ytpldhjjpeldkaaagreat", sum := "52e37aaab4673fb2e69d841b2686a34e8385ef4305815c00dd2656933d0cdc0d", func := "tracery/tracerylaw12.EditSplits", spec := "editSplits", inPlace := ["slices.overlaps[tracery/api.Vertex]", "slices.overlaps[tracery/api.Edge]", "slices.overlaps[tracery/api.Gone]"], unfollowed := true, recurses := true, plainKeys := false, apart := false, narrowed := true }
def EditSplitsUptoSaid : Prop := editSplitsUptoRow.holds Tryz.pinned (OpenSpec.upto editSplitsSpec)

/-- 'tracerylaw12.EditSets', WHERE WHAT IT READS IS OF BULK AT MOST 1048576: true; the input reads as it did. -/
def editSetsUptoRow : OpenClaim := { program := "ytpldhjjpeldkaaagreat", sum := "52e37aaab4673fb2e69d841b2686a34e8385ef4305815c00dd2656933d0cdc0d", func := "tracery/tracerylaw12.EditSets", spec := "editSets", inPlace := ["slices.overlaps[tracery/api.Vertex]", "slices.overlaps[tracery/api.Edge]", "slices.overlaps[tracery/api.Gone]"], unfollowed := true, recurses := true, plainKeys := false, apart := false, narrowed := true }
def EditSetsUptoSaid : Prop := editSetsUptoRow.holds Tryz.pinned (OpenSpec.upto editSetsSpec)

/-- 'tracerylaw12.EditLeaves', WHERE WHAT IT READS IS OF BULK AT MOST 1048576: true; the input reads as it did. -/
def editLeavesUptoRow : OpenClaim := { program := "ytpldhjjpeldkaaagreat", sum := "52e37aaab4673fb2e69d841b2686a34e8385ef4305815c00dd2656933d0cdc0d", func := "tracery/tracerylaw12.EditLeaves", spec := "editLeaves", inPlace := ["slices.overlaps[tracery/api.Vertex]", "slices.overlaps[tracery/api.Edge]", "slices.overlaps[tracery/api.Gone]"], unfollowed := true, recurses := true, plainKeys := false, apart := false, narrowed := true }
def EditLeavesUptoSaid : Prop := editLeavesUptoRow.holds Tryz.pinned (OpenSpec.upto editLeavesSpec)

/-- 'tracerylaw12.EditRows', WHERE WHAT IT READS IS OF BULK AT MOST 1048576: true; the input reads as it did. -/
def editRowsUptoRow : OpenClaim := { program := "ytpldhjjpeldkaaagreat", sum := "52e37aaab4673fb2e69d841b2686a34e8385ef4305815c00dd2656933d0cdc0d", func := "tracery/tracerylaw12.EditRows", spec := "editRows", inPlace := ["slices.overlaps[tracery/api.Vertex]", "slices.overlaps[tracery/api.Edge]", "slices.overlaps[tracery/api.Gone]"], unfollowed := true, recurses := true, plainKeys := false, apart := false, narrowed := true }
def EditRowsUptoSaid : Prop := editRowsUptoRow.holds Tryz.pinned (OpenSpec.upto editRowsSpec)

/-- 'tracerylaw12.EditPlane', WHERE WHAT IT READS IS OF BULK AT MOST 1048576: true; the input reads as it did. -/
def editPlaneUptoRow : OpenClaim := { program := "ytpldhjjpeldkaaagreat", sum := "52e37aaab4673fb2e69d841b2686a34e8385ef4305815c00dd2656933d0cdc0d", func := "tracery/tracerylaw12.EditPlane", spec := "editPlane", inPlace := ["slices.overlaps[tracery/api.Vertex]", "slices.overlaps[tracery/api.Edge]", "slices.overlaps[tracery/api.Gone]"], unfollowed := true, recurses := true, plainKeys := false, apart := false, narrowed := true }
def EditPlaneUptoSaid : Prop := editPlaneUptoRow.holds Tryz.pinned (OpenSpec.upto editPlaneSpec)

/-- 'tracerylaw12.EditWhole', WHERE WHAT IT READS IS OF BULK AT MOST 1048576: true; the input reads as it did. -/
def editWholeUptoRow : OpenClaim := { program := "ytpldhjjpeldkaaagreat", sum := "52e37aaab4673fb2e69d841b2686a34e8385ef4305815c00dd2656933d0cdc0d", func := "tracery/tracerylaw12.EditWhole", spec := "editWhole", inPlace := ["slices.overlaps[tracery/api.Vertex]", "slices.overlaps[tracery/api.Edge]", "slices.overlaps[tracery/api.Gone]"], unfollowed := true, recurses := true, plainKeys := false, apart := false, narrowed := true }
def EditWholeUptoSaid : Prop := editWholeUptoRow.holds Tryz.pinned (OpenSpec.upto editWholeSpec)

end Rows
end Go.Proofs.YtpldhjjpeldkaaaGreat
