/-
  No cell of these rows narrows 'for every input' (looked for: loops, veiled, ifaces, maps, wideKeys, modest, calm, conditions, laid).
  DERIVED. THE GIVEN ROWS OF THIS SEAT. 6 by the template 'for every input the law returns true; each argument reads behind the call as it read before'; 0 by the template 'total and deterministic' (their statements: YtoleelddkocpkaaGreatTotals.lean).
  GIVEN WITH THE SEED: the statements are not yours to turn. If you find one false, say at which input.
  Laid BY PROGRAM, IN A SANDBOX (cutbox-rows.mjs): the forced cells as the released guide's own fill.sh prints them over the translation ed936271e84234e6… (all of the seat's roots in one cut). By AI agents, Wed Nov 11 2026. No macro, syntax, notation, axiom, sorry.
-/
import Derived.Test.YtoleelddkocpkaaGreatChecked
import GoSem.Claim
import GoSem.ClaimJoined
import GoSem.ClaimMapViews
import Derived.JoinedTies
import Derived.KernelRfl
namespace Go.Proofs.YtoleelddkocpkaaGreat
/- THE CELL 'sum', in the pinned program and in every row, IS THE sha256 OF THE DUMP (.gsa) THAT YtoleelddkocpkaaGreatProg.lean LOADS. Nothing in Lean hashes anything: it is a label: what it is worth is what the hold of that sum in a sandbox is worth. -/
noncomputable def Tryz.pinned : Pinned := { name := "ytoleelddkocpkaagreat", sum := "ed936271e84234e62acd57eec6c9098eb7a288b812d3e34ccdc5e06930544218", checked := Tryz.checked }
namespace Rows
def none {H : Type} : Left H := { results := [], args := [] }

/-- 'tracerylaw14.FoldOwn': WHATEVER THE INPUT: true; the input reads as it did. -/
def foldOwnSpec : ChangeSpec := { name := "foldOwn", fn := fun _ => fun
  | [d1, d2] => { results := [.lit (.bool true)], args := [d1, d2] }
  | _ => none }
def foldOwnRow : OpenClaim := { program := "ytoleelddkocpkaagreat", sum := "ed936271e84234e62acd57eec6c9098eb7a288b812d3e34ccdc5e06930544218", func := "tracery/tracerylaw14.FoldOwn", spec := "foldOwn", inPlace := ["slices.overlaps[tracery/api.Vertex]", "slices.overlaps[tracery/api.Edge]", "slices.overlaps[tracery/api.Gone]"], unfollowed := true, recurses := true, plainKeys := false, apart := false }
def FoldOwnSaid : Prop := foldOwnRow.holds Tryz.pinned (OpenSpec.ofChange foldOwnSpec)

/-- ITS FALSE NEIGHBOUR: 'it returns false'. Refute it at one input. -/
def foldOwnWrong : ChangeSpec := { name := "foldOwn", fn := fun _ => fun
  | [d1, d2] => { results := [.lit (.bool false)], args := [d1, d2] }
  | _ => none }
def FoldOwnWrongFalsely : Prop := foldOwnRow.holds Tryz.pinned (OpenSpec.ofChange foldOwnWrong)

/-- 'tracerylaw14.FoldAll': WHATEVER THE INPUT: true; the input reads as it did. -/
def foldAllSpec : ChangeSpec := { name := "foldAll", fn := fun _ => fun
  | [d] => { results := [.lit (.bool true)], args := [d] }
  | _ => none }
def foldAllRow : OpenClaim := { program := "ytoleelddkocpkaagreat", sum := "ed936271e84234e62acd57eec6c9098eb7a288b812d3e34ccdc5e06930544218", func := "tracery/tracerylaw14.FoldAll", spec := "foldAll", inPlace := ["slices.overlaps[tracery/api.Vertex]", "slices.overlaps[tracery/api.Edge]", "slices.overlaps[tracery/api.Gone]"], unfollowed := true, recurses := true, plainKeys := false, apart := false }
def FoldAllSaid : Prop := foldAllRow.holds Tryz.pinned (OpenSpec.ofChange foldAllSpec)

/-- ITS FALSE NEIGHBOUR: 'it returns false'. Refute it at one input. -/
def foldAllWrong : ChangeSpec := { name := "foldAll", fn := fun _ => fun
  | [d] => { results := [.lit (.bool false)], args := [d] }
  | _ => none }
def FoldAllWrongFalsely : Prop := foldAllRow.holds Tryz.pinned (OpenSpec.ofChange foldAllWrong)

/-- 'tracerylaw14.FoldBytes': WHATEVER THE INPUT: true; the input reads as it did. -/
def foldBytesSpec : ChangeSpec := { name := "foldBytes", fn := fun _ => fun
  | [d1, d2] => { results := [.lit (.bool true)], args := [d1, d2] }
  | _ => none }
def foldBytesRow : OpenClaim := { program := "ytoleelddkocpkaagreat", sum := "ed936271e84234e62acd57eec6c9098eb7a288b812d3e34ccdc5e06930544218", func := "tracery/tracerylaw14.FoldBytes", spec := "foldBytes", inPlace := ["slices.overlaps[tracery/api.Vertex]", "slices.overlaps[tracery/api.Edge]", "slices.overlaps[tracery/api.Gone]"], unfollowed := true, recurses := true, plainKeys := false, apart := false }
def FoldBytesSaid : Prop := foldBytesRow.holds Tryz.pinned (OpenSpec.ofChange foldBytesSpec)

/-- ITS FALSE NEIGHBOUR: 'it returns false'. Refute it at one input. -/
def foldBytesWrong : ChangeSpec := { name := "foldBytes", fn := fun _ => fun
  | [d1, d2] => { results := [.lit (.bool false)], args := [d1, d2] }
  | _ => none }
def FoldBytesWrongFalsely : Prop := foldBytesRow.holds Tryz.pinned (OpenSpec.ofChange foldBytesWrong)

/-- 'tracerylaw18.HistSnaps': WHATEVER THE INPUT: true; the input reads as it did. -/
def histSnapsSpec : ChangeSpec := { name := "histSnaps", fn := fun _ => fun
  | [d1, d2, d3] => { results := [.lit (.bool true)], args := [d1, d2, d3] }
  | _ => none }
def histSnapsRow : OpenClaim := { program := "ytoleelddkocpkaagreat", sum := "ed936271e84234e62acd57eec6c9098eb7a288b812d3e34ccdc5e06930544218", func := "tracery/tracerylaw18.HistSnaps", spec := "histSnaps", inPlace := ["slices.overlaps[tracery/api.Vertex]", "slices.overlaps[tracery/api.Edge]", "slices.overlaps[tracery/api.Gone]"], unfollowed := true, recurses := true, plainKeys := false, apart := false }
def HistSnapsSaid : Prop := histSnapsRow.holds Tryz.pinned (OpenSpec.ofChange histSnapsSpec)

/-- ITS FALSE NEIGHBOUR: 'it returns false'. Refute it at one input. -/
def histSnapsWrong : ChangeSpec := { name := "histSnaps", fn := fun _ => fun
  | [d1, d2, d3] => { results := [.lit (.bool false)], args := [d1, d2, d3] }
  | _ => none }
def HistSnapsWrongFalsely : Prop := histSnapsRow.holds Tryz.pinned (OpenSpec.ofChange histSnapsWrong)

/-- 'tracerylaw18.HistSnapBack': WHATEVER THE INPUT: true; the input reads as it did. -/
def histSnapBackSpec : ChangeSpec := { name := "histSnapBack", fn := fun _ => fun
  | [d1, d2, d3] => { results := [.lit (.bool true)], args := [d1, d2, d3] }
  | _ => none }
def histSnapBackRow : OpenClaim := { program := "ytoleelddkocpkaagreat", sum := "ed936271e84234e62acd57eec6c9098eb7a288b812d3e34ccdc5e06930544218", func := "tracery/tracerylaw18.HistSnapBack", spec := "histSnapBack", inPlace := ["slices.overlaps[tracery/api.Vertex]", "slices.overlaps[tracery/api.Edge]", "slices.overlaps[tracery/api.Gone]"], unfollowed := true, recurses := true, plainKeys := false, apart := false }
def HistSnapBackSaid : Prop := histSnapBackRow.holds Tryz.pinned (OpenSpec.ofChange histSnapBackSpec)

/-- ITS FALSE NEIGHBOUR: 'it returns false'. Refute it at one input. -/
def histSnapBackWrong : ChangeSpec := { name := "histSnapBack", fn := fun _ => fun
  | [d1, d2, d3] => { results := [.lit (.bool false)], args := [d1, d2, d3] }
  | _ => none }
def HistSnapBackWrongFalsely : Prop := histSnapBackRow.holds Tryz.pinned (OpenSpec.ofChange histSnapBackWrong)

/-- 'tracerylaw18.HistMoves': WHATEVER THE INPUT: true; the input reads as it did. -/
def histMovesSpec : ChangeSpec := { name := "histMoves", fn := fun _ => fun
  | [d1, d2] => { results := [.lit (.bool true)], args := [d1, d2] }
  | _ => none }
def histMovesRow : OpenClaim := { program := "ytoleelddkocpkaagreat", sum := "ed936271e84234e62acd57eec6c9098eb7a288b812d3e34ccdc5e06930544218", func := "tracery/tracerylaw18.HistMoves", spec := "histMoves", inPlace := ["slices.overlaps[tracery/api.Vertex]", "slices.overlaps[tracery/api.Edge]", "slices.overlaps[tracery/api.Gone]"], unfollowed := true, recurses := true, plainKeys := false, apart := false }
def HistMovesSaid : Prop := histMovesRow.holds Tryz.pinned (OpenSpec.ofChange histMovesSpec)

/-- ITS FALSE NEIGHBOUR: 'it returns false'. Refute it at one input. -/
def histMovesWrong : ChangeSpec := { name := "histMoves", fn := fun _ => fun
  | [d1, d2] => { results := [.lit (.bool false)], args := [d1, d2] }
  | _ => none }
def HistMovesWrongFalsely : Prop := histMovesRow.holds Tryz.pinned (OpenSpec.ofChange histMovesWrong)

/- THE SECOND FORM. 'bulk': how many values and letters a reading holds, each counted each time it is reached (what is shared counts as often as it is met; a slice's spare places count too). A statement '..UptoSaid' is the law's where the arguments, and the package variables that the reading takes, are together of bulk at most 1048576: NARROWER than '..Said'. Prove '..Said' where nothing that the law and all that it calls make is longer than what came in: it says more and counts as full. Else prove '..UptoSaid'. A law counts once. -/
mutual
def uptoBulk {H : Type} : DataW H → Nat
  | .lit (.string bytes) => bytes.length + 1
  | .lit _ => 1
  | .nil => 1
  | .ptr d => uptoBulk d + 1
  | .slice elems spare => uptoBulkAll elems + uptoBulkAll spare + 1
  | .agg parts => uptoBulkAll parts + 1
  | .iface _ d => uptoBulk d + 1
  | .map entries => uptoBulkEntries entries + 1
  | .held _ => 1
def uptoBulkAll {H : Type} : List (DataW H) → Nat
  | [] => 0
  | d :: r => uptoBulk d + uptoBulkAll r
def uptoBulkEntries {H : Type} : List (Lit × DataW H) → Nat
  | [] => 0
  | x :: r => uptoBulkEntry x + uptoBulkEntries r
def uptoBulkEntry {H : Type} : Lit × DataW H → Nat
  | (.string bytes, d) => bytes.length + uptoBulk d + 1
  | (_, d) => uptoBulk d + 1
 end
def uptoSmall : (H : Type) → List (DataW H) → Bool := fun _ ds => decide (uptoBulkAll ds ≤ 1048576)
def OpenSpec.upto (s : _root_.Go.ChangeSpec) : _root_.Go.OpenSpec := { _root_.Go.OpenSpec.ofChange s with cond := some uptoSmall }

/-- 'tracerylaw14.FoldOwn', WHERE WHAT IT READS IS OF BULK AT MOST 1048576: true; the input reads as it did. -/
def foldOwnUptoRow : OpenClaim := { program := "ytoleelddkocpkaagreat", sum := "ed936271e84234e62acd57eec6c9098eb7a288b812d3e34ccdc5e06930544218", func := "tracery/tracerylaw14.FoldOwn", spec := "foldOwn", inPlace := ["slices.overlaps[tracery/api.Vertex]", "slices.overlaps[tracery/api.Edge]", "slices.overlaps[tracery/api.Gone]"], unfollowed := true, recurses := true, plainKeys := false, apart := false, narrowed := true }
def FoldOwnUptoSaid : Prop := foldOwnUptoRow.holds Tryz.pinned (OpenSpec.upto foldOwnSpec)

/-- 'tracerylaw14.FoldAll', WHERE WHAT IT READS IS OF BULK AT MOST 1048576: true; the input reads as it did. -/
def foldAllUptoRow : OpenClaim := { program := "ytoleelddkocpkaagreat", sum := "ed936271e84234e62acd57eec6c9098eb7a288b812d3e34ccdc5e06930544218", func := "tracery/tracerylaw14.FoldAll", spec := "foldAll", inPlace := ["slices.overlaps[tracery/api.Vertex]", "slices.overlaps[tracery/api.Edge]", "slices.overlaps[tracery/api.Gone]"], unfollowed := true, recurses := true, plainKeys := false, apart := false, narrowed := true }
def FoldAllUptoSaid : Prop := foldAllUptoRow.holds Tryz.pinned (OpenSpec.upto foldAllSpec)

/-- 'tracerylaw14.FoldBytes', WHERE WHAT IT READS IS OF BULK AT MOST 1048576: true; the input reads as it did. -/
def foldBytesUptoRow : OpenClaim := { program := "ytoleelddkocpkaagreat", sum := "ed936271e84234e62acd57eec6c9098eb7a288b812d3e34ccdc5e06930544218", func := "tracery/tracerylaw14.FoldBytes", spec := "foldBytes", inPlace := ["slices.overlaps[tracery/api.Vertex]", "slices.overlaps[tracery/api.Edge]", "slices.overlaps[tracery/api.Gone]"], unfollowed := true, recurses := true, plainKeys := false, apart := false, narrowed := true }
def FoldBytesUptoSaid : Prop := foldBytesUptoRow.holds Tryz.pinned (OpenSpec.upto foldBytesSpec)

/-- 'tracerylaw18.HistSnaps', WHERE WHAT IT READS IS OF BULK AT MOST 1048576: true; the input reads as it did. -/
def histSnapsUptoRow : OpenClaim := { program := "ytoleelddkocpkaagreat", sum := "ed936271e84234e62acd57eec6c9098eb7a288b812d3e34ccdc5e06930544218", func := "tracery/tracerylaw18.HistSnaps", spec := "histSnaps", inPlace := ["slices.overlaps[tracery/api.Vertex]", "slices.overlaps[tracery/api.Edge]", "slices.overlaps[tracery/api.Gone]"], unfollowed := true, recurses := true, plainKeys := false, apart := false, narrowed := true }
def HistSnapsUptoSaid : Prop := histSnapsUptoRow.holds Tryz.pinned (OpenSpec.upto histSnapsSpec)

/-- 'tracerylaw18.HistSnapBack', WHERE WHAT IT READS IS OF BULK AT MOST 1048576: true; the input reads as it did. -/
def histSnapBackUptoRow : OpenClaim := { program := "ytoleelddkocpkaagreat", sum := "ed936271e84234e62acd57eec6c9098eb7a288b812d3e34ccdc5e06930544218", func := "tracery/tracerylaw18.HistSnapBack", spec := "histSnapBack", inPlace := ["slices.overlaps[tracery/api.Vertex]", "slices.overlaps[tracery/api.Edge]", "slices.overlaps[tracery/api.Gone]"], unfollowed := true, recurses := true, plainKeys := false, apart := false, narrowed := true }
def HistSnapBackUptoSaid : Prop := histSnapBackUptoRow.holds Tryz.pinned (OpenSpec.upto histSnapBackSpec)

/-- 'tracerylaw18.HistMoves', WHERE WHAT IT READS IS OF BULK AT MOST 1048576: true; the input reads as it did. -/
def histMovesUptoRow : OpenClaim := { program := "ytoleelddkocpkaagreat", sum := "ed936271e84234e62acd57eec6c9098eb7a288b812d3e34ccdc5e06930544218", func := "tracery/tracerylaw18.HistMoves", spec := "histMoves", inPlace := ["slices.overlaps[tracery/api.Vertex]", "slices.overlaps[tracery/api.Edge]", "slices.overlaps[tracery/api.Gone]"], unfollowed := true, recurses := true, plainKeys := false, apart := false, narrowed := true }
def HistMovesUptoSaid : Prop := histMovesUptoRow.holds Tryz.pinned (OpenSpec.upto histMovesSpec)

end Rows
end Go.Proofs.YtoleelddkocpkaaGreat
