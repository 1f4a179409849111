/-
  No cell of these rows narrows 'for every input' (looked for: loops, veiled, ifaces, maps, wideKeys, modest, calm, conditions, laid).
  DERIVED. THE GIVEN ROWS OF THIS SEAT. 12 by the template 'for every input the law returns true; each argument reads behind the call as it read before'; 0 by the template 'total and deterministic' (their statements: YtpkfpbpbkabkdaaGreatTotals.lean).
  GIVEN WITH THE SEED: the statements are not yours to turn. If you find one false, say at which input.
  Laid BY PROGRAM, IN A SANDBOX (cutbox-rows.mjs): the forced cells as the released guide's own fill.sh prints them over the translation 16bc0caf2b44523a… (all of the seat's roots in one cut). By AI agents, Wed Nov 11 2026. No macro, syntax, notation, axiom, sorry.
-/
import Derived.Test.YtpkfpbpbkabkdaaGreatChecked
import GoSem.Claim
import GoSem.ClaimJoined
import GoSem.ClaimMapViews
import Derived.JoinedTies
import Derived.KernelRfl
namespace Go.Proofs.YtpkfpbpbkabkdaaGreat
/- THE CELL 'sum', in the pinned program and in every row, IS THE sha256 OF THE DUMP (.gsa) THAT YtpkfpbpbkabkdaaGreatProg.lean LOADS. Nothing in Lean hashes anything: it is a label: what it is worth is what the hold of that sum in a sandbox is worth. -/
noncomputable def Tryz.pinned : Pinned := { name := "ytpkfpbpbkabkdaagreat", sum := "16bc0caf2b44523ad8d85e7185a84d0a562a26f476096b576d75d832d0510c8f", checked := Tryz.checked }
namespace Rows
def none {H : Type} : Left H := { results := [], args := [] }

/-- 'tracerylaw14.FoldSkips': WHATEVER THE INPUT: true; the input reads as it did. -/
def foldSkipsSpec : ChangeSpec := { name := "foldSkips", fn := fun _ => fun
  | [d] => { results := [.lit (.bool true)], args := [d] }
  | _ => none }
def foldSkipsRow : OpenClaim := { program := "ytpkfpbpbkabkdaagreat", sum := "16bc0caf2b44523ad8d85e7185a84d0a562a26f476096b576d75d832d0510c8f", func := "tracery/tracerylaw14.FoldSkips", spec := "foldSkips", inPlace := ["slices.overlaps[tracery/api.Vertex]", "slices.overlaps[tracery/api.Edge]", "slices.overlaps[tracery/api.Gone]"], unfollowed := true, recurses := true, plainKeys := false, apart := false }
def FoldSkipsSaid : Prop := foldSkipsRow.holds Tryz.pinned (OpenSpec.ofChange foldSkipsSpec)

/-- ITS FALSE NEIGHBOUR: 'it returns false'. Refute it at one input. -/
def foldSkipsWrong : ChangeSpec := { name := "foldSkips", fn := fun _ => fun
  | [d] => { results := [.lit (.bool false)], args := [d] }
  | _ => none }
def FoldSkipsWrongFalsely : Prop := foldSkipsRow.holds Tryz.pinned (OpenSpec.ofChange foldSkipsWrong)

/-- 'tracerylaw14.FoldOwn': WHATEVER THE INPUT: true; the input reads as it did. -/
def foldOwnSpec : ChangeSpec := { name := "foldOwn", fn := fun _ => fun
  | [d1, d2] => { results := [.lit (.bool true)], args := [d1, d2] }
  | _ => none }
def foldOwnRow : OpenClaim := { program := "ytpkfpbpbkabkdaagreat", sum := "16bc0caf2b44523ad8d85e7185a84d0a562a26f476096b576d75d832d0510c8f", func := "tracery/tracerylaw14.FoldOwn", spec := "foldOwn", inPlace := ["slices.overlaps[tracery/api.Vertex]", "slices.overlaps[tracery/api.Edge]", "slices.overlaps[tracery/api.Gone]"], unfollowed := true, recurses := true, plainKeys := false, apart := false }
def FoldOwnSaid : Prop := foldOwnRow.holds Tryz.pinned (OpenSpec.ofChange foldOwnSpec)

/-- ITS FALSE NEIGHBOUR: 'it returns false'. Refute it at one input. -/
def foldOwnWrong : ChangeSpec := { name := "foldOwn", fn := fun _ => fun
  | [d1, d2] => { results := [.lit (.bool false)], args := [d1, d2] }
  | _ => none }
def FoldOwnWrongFalsely : Prop := foldOwnRow.holds Tryz.pinned (OpenSpec.ofChange foldOwnWrong)

/-- 'tracerylaw18.HistFull': WHATEVER THE INPUT: true; the input reads as it did. -/
def histFullSpec : ChangeSpec := { name := "histFull", fn := fun _ => fun
  | [d1, d2] => { results := [.lit (.bool true)], args := [d1, d2] }
  | _ => none }
def histFullRow : OpenClaim := { program := "ytpkfpbpbkabkdaagreat", sum := "16bc0caf2b44523ad8d85e7185a84d0a562a26f476096b576d75d832d0510c8f", func := "tracery/tracerylaw18.HistFull", spec := "histFull", inPlace := ["slices.overlaps[tracery/api.Vertex]", "slices.overlaps[tracery/api.Edge]", "slices.overlaps[tracery/api.Gone]"], unfollowed := true, recurses := true, plainKeys := false, apart := false }
def HistFullSaid : Prop := histFullRow.holds Tryz.pinned (OpenSpec.ofChange histFullSpec)

/-- ITS FALSE NEIGHBOUR: 'it returns false'. Refute it at one input. -/
def histFullWrong : ChangeSpec := { name := "histFull", fn := fun _ => fun
  | [d1, d2] => { results := [.lit (.bool false)], args := [d1, d2] }
  | _ => none }
def HistFullWrongFalsely : Prop := histFullRow.holds Tryz.pinned (OpenSpec.ofChange histFullWrong)

/-- 'tracerylaw18.HistParts': WHATEVER THE INPUT: true; the input reads as it did. -/
def histPartsSpec : ChangeSpec := { name := "histParts", fn := fun _ => fun
  | [d1, d2, d3] => { results := [.lit (.bool true)], args := [d1, d2, d3] }
  | _ => none }
def histPartsRow : OpenClaim := { program := "ytpkfpbpbkabkdaagreat", sum := "16bc0caf2b44523ad8d85e7185a84d0a562a26f476096b576d75d832d0510c8f", func := "tracery/tracerylaw18.HistParts", spec := "histParts", inPlace := ["slices.overlaps[tracery/api.Vertex]", "slices.overlaps[tracery/api.Edge]", "slices.overlaps[tracery/api.Gone]"], unfollowed := true, recurses := true, plainKeys := false, apart := false }
def HistPartsSaid : Prop := histPartsRow.holds Tryz.pinned (OpenSpec.ofChange histPartsSpec)

/-- ITS FALSE NEIGHBOUR: 'it returns false'. Refute it at one input. -/
def histPartsWrong : ChangeSpec := { name := "histParts", fn := fun _ => fun
  | [d1, d2, d3] => { results := [.lit (.bool false)], args := [d1, d2, d3] }
  | _ => none }
def HistPartsWrongFalsely : Prop := histPartsRow.holds Tryz.pinned (OpenSpec.ofChange histPartsWrong)

/-- 'tracerylaw18.HistPlays': WHATEVER THE INPUT: true; the input reads as it did. -/
def histPlaysSpec : ChangeSpec := { name := "histPlays", fn := fun _ => fun
  | [d1, d2] => { results := [.lit (.bool true)], args := [d1, d2] }
  | _ => none }
def histPlaysRow : OpenClaim := { program := "ytpkfpbpbkabkdaagreat", sum := "16bc0caf2b44523ad8d85e7185a84d0a562a26f476096b576d75d832d0510c8f", func := "tracery/tracerylaw18.HistPlays", spec := "histPlays", inPlace := ["slices.overlaps[tracery/api.Vertex]", "slices.overlaps[tracery/api.Edge]", "slices.overlaps[tracery/api.Gone]"], unfollowed := true, recurses := true, plainKeys := false, apart := false }
def HistPlaysSaid : Prop := histPlaysRow.holds Tryz.pinned (OpenSpec.ofChange histPlaysSpec)

/-- ITS FALSE NEIGHBOUR: 'it returns false'. Refute it at one input. -/
def histPlaysWrong : ChangeSpec := { name := "histPlays", fn := fun _ => fun
  | [d1, d2] => { results := [.lit (.bool false)], args := [d1, d2] }
  | _ => none }
def HistPlaysWrongFalsely : Prop := histPlaysRow.holds Tryz.pinned (OpenSpec.ofChange histPlaysWrong)

/-- 'tracerylaw13.InverseMay': WHATEVER THE INPUT: true; the input reads as it did. -/
def inverseMaySpec : ChangeSpec := { name := "inverseMay", fn := fun _ => fun
  | [d1, d2] => { results := [.lit (.bool true)], args := [d1, d2] }
  | _ => none }
def inverseMayRow : OpenClaim := { program := "ytpkfpbpbkabkdaagreat", sum := "16bc0caf2b44523ad8d85e7185a84d0a562a26f476096b576d75d832d0510c8f", func := "tracery/tracerylaw13.InverseMay", spec := "inverseMay", inPlace := ["slices.overlaps[tracery/api.Vertex]", "slices.overlaps[tracery/api.Edge]", "slices.overlaps[tracery/api.Gone]"], unfollowed := true, recurses := true, plainKeys := false, apart := false }
def InverseMaySaid : Prop := inverseMayRow.holds Tryz.pinned (OpenSpec.ofChange inverseMaySpec)

/-- ITS FALSE NEIGHBOUR: 'it returns false'. Refute it at one input. -/
def inverseMayWrong : ChangeSpec := { name := "inverseMay", fn := fun _ => fun
  | [d1, d2] => { results := [.lit (.bool false)], args := [d1, d2] }
  | _ => none }
def InverseMayWrongFalsely : Prop := inverseMayRow.holds Tryz.pinned (OpenSpec.ofChange inverseMayWrong)

/-- 'tracerylaw13.InverseParts': WHATEVER THE INPUT: true; the input reads as it did. -/
def inversePartsSpec : ChangeSpec := { name := "inverseParts", fn := fun _ => fun
  | [d1, d2] => { results := [.lit (.bool true)], args := [d1, d2] }
  | _ => none }
def inversePartsRow : OpenClaim := { program := "ytpkfpbpbkabkdaagreat", sum := "16bc0caf2b44523ad8d85e7185a84d0a562a26f476096b576d75d832d0510c8f", func := "tracery/tracerylaw13.InverseParts", spec := "inverseParts", inPlace := ["slices.overlaps[tracery/api.Vertex]", "slices.overlaps[tracery/api.Edge]", "slices.overlaps[tracery/api.Gone]"], unfollowed := true, recurses := true, plainKeys := false, apart := false }
def InversePartsSaid : Prop := inversePartsRow.holds Tryz.pinned (OpenSpec.ofChange inversePartsSpec)

/-- ITS FALSE NEIGHBOUR: 'it returns false'. Refute it at one input. -/
def inversePartsWrong : ChangeSpec := { name := "inverseParts", fn := fun _ => fun
  | [d1, d2] => { results := [.lit (.bool false)], args := [d1, d2] }
  | _ => none }
def InversePartsWrongFalsely : Prop := inversePartsRow.holds Tryz.pinned (OpenSpec.ofChange inversePartsWrong)

/-- 'tracerylaw13.InverseOne': WHATEVER THE INPUT: true; the input reads as it did. -/
def inverseOneSpec : ChangeSpec := { name := "inverseOne", fn := fun _ => fun
  | [d1, d2, d3] => { results := [.lit (.bool true)], args := [d1, d2, d3] }
  | _ => none }
def inverseOneRow : OpenClaim := { program := "ytpkfpbpbkabkdaagreat", sum := "16bc0caf2b44523ad8d85e7185a84d0a562a26f476096b576d75d832d0510c8f", func := "tracery/tracerylaw13.InverseOne", spec := "inverseOne", inPlace := ["slices.overlaps[tracery/api.Vertex]", "slices.overlaps[tracery/api.Edge]", "slices.overlaps[tracery/api.Gone]"], unfollowed := true, recurses := true, plainKeys := false, apart := false }
def InverseOneSaid : Prop := inverseOneRow.holds Tryz.pinned (OpenSpec.ofChange inverseOneSpec)

/-- ITS FALSE NEIGHBOUR: 'it returns false'. Refute it at one input. -/
def inverseOneWrong : ChangeSpec := { name := "inverseOne", fn := fun _ => fun
  | [d1, d2, d3] => { results := [.lit (.bool false)], args := [d1, d2, d3] }
  | _ => none }
def InverseOneWrongFalsely : Prop := inverseOneRow.holds Tryz.pinned (OpenSpec.ofChange inverseOneWrong)

/-- 'tracerylaw13.InverseBack': WHATEVER THE INPUT: true; the input reads as it did. -/
def inverseBackSpec : ChangeSpec := { name := "inverseBack", fn := fun _ => fun
  | [d1, d2] => { results := [.lit (.bool true)], args := [d1, d2] }
  | _ => none }
def inverseBackRow : OpenClaim := { program := "ytpkfpbpbkabkdaagreat", sum := "16bc0caf2b44523ad8d85e7185a84d0a562a26f476096b576d75d832d0510c8f", func := "tracery/tracerylaw13.InverseBack", spec := "inverseBack", inPlace := ["slices.overlaps[tracery/api.Vertex]", "slices.overlaps[tracery/api.Edge]", "slices.overlaps[tracery/api.Gone]"], unfollowed := true, recurses := true, plainKeys := false, apart := false }
def InverseBackSaid : Prop := inverseBackRow.holds Tryz.pinned (OpenSpec.ofChange inverseBackSpec)

/-- ITS FALSE NEIGHBOUR: 'it returns false'. Refute it at one input. -/
def inverseBackWrong : ChangeSpec := { name := "inverseBack", fn := fun _ => fun
  | [d1, d2] => { results := [.lit (.bool false)], args := [d1, d2] }
  | _ => none }
def InverseBackWrongFalsely : Prop := inverseBackRow.holds Tryz.pinned (OpenSpec.ofChange inverseBackWrong)

/-- 'tracerylaw13.InverseTwice': WHATEVER THE INPUT: true; the input reads as it did. -/
def inverseTwiceSpec : ChangeSpec := { name := "inverseTwice", fn := fun _ => fun
  | [d1, d2] => { results := [.lit (.bool true)], args := [d1, d2] }
  | _ => none }
def inverseTwiceRow : OpenClaim := { program := "ytpkfpbpbkabkdaagreat", sum := "16bc0caf2b44523ad8d85e7185a84d0a562a26f476096b576d75d832d0510c8f", func := "tracery/tracerylaw13.InverseTwice", spec := "inverseTwice", inPlace := ["slices.overlaps[tracery/api.Vertex]", "slices.overlaps[tracery/api.Edge]", "slices.overlaps[tracery/api.Gone]"], unfollowed := true, recurses := true, plainKeys := false, apart := false }
def InverseTwiceSaid : Prop := inverseTwiceRow.holds Tryz.pinned (OpenSpec.ofChange inverseTwiceSpec)

/-- ITS FALSE NEIGHBOUR: 'it returns false'. Refute it at one input. -/
def inverseTwiceWrong : ChangeSpec := { name := "inverseTwice", fn := fun _ => fun
  | [d1, d2] => { results := [.lit (.bool false)], args := [d1, d2] }
  | _ => none }
def InverseTwiceWrongFalsely : Prop := inverseTwiceRow.holds Tryz.pinned (OpenSpec.ofChange inverseTwiceWrong)

/-- 'tracerylaw14.FoldUndo': WHATEVER THE INPUT: true; the input reads as it did. -/
def foldUndoSpec : ChangeSpec := { name := "foldUndo", fn := fun _ => fun
  | [d1, d2] => { results := [.lit (.bool true)], args := [d1, d2] }
  | _ => none }
def foldUndoRow : OpenClaim := { program := "ytpkfpbpbkabkdaagreat", sum := "16bc0caf2b44523ad8d85e7185a84d0a562a26f476096b576d75d832d0510c8f", func := "tracery/tracerylaw14.FoldUndo", spec := "foldUndo", inPlace := ["slices.overlaps[tracery/api.Vertex]", "slices.overlaps[tracery/api.Edge]", "slices.overlaps[tracery/api.Gone]"], unfollowed := true, recurses := true, plainKeys := false, apart := false }
def FoldUndoSaid : Prop := foldUndoRow.holds Tryz.pinned (OpenSpec.ofChange foldUndoSpec)

/-- ITS FALSE NEIGHBOUR: 'it returns false'. Refute it at one input. -/
def foldUndoWrong : ChangeSpec := { name := "foldUndo", fn := fun _ => fun
  | [d1, d2] => { results := [.lit (.bool false)], args := [d1, d2] }
  | _ => none }
def FoldUndoWrongFalsely : Prop := foldUndoRow.holds Tryz.pinned (OpenSpec.ofChange foldUndoWrong)

/-- 'tracerylaw14.FoldParts': WHATEVER THE INPUT: true; the input reads as it did. -/
def foldPartsSpec : ChangeSpec := { name := "foldParts", fn := fun _ => fun
  | [d1, d2] => { results := [.lit (.bool true)], args := [d1, d2] }
  | _ => none }
def foldPartsRow : OpenClaim := { program := "ytpkfpbpbkabkdaagreat", sum := "16bc0caf2b44523ad8d85e7185a84d0a562a26f476096b576d75d832d0510c8f", func := "tracery/tracerylaw14.FoldParts", spec := "foldParts", inPlace := ["slices.overlaps[tracery/api.Vertex]", "slices.overlaps[tracery/api.Edge]", "slices.overlaps[tracery/api.Gone]"], unfollowed := true, recurses := true, plainKeys := false, apart := false }
def FoldPartsSaid : Prop := foldPartsRow.holds Tryz.pinned (OpenSpec.ofChange foldPartsSpec)

/-- ITS FALSE NEIGHBOUR: 'it returns false'. Refute it at one input. -/
def foldPartsWrong : ChangeSpec := { name := "foldParts", fn := fun _ => fun
  | [d1, d2] => { results := [.lit (.bool false)], args := [d1, d2] }
  | _ => none }
def FoldPartsWrongFalsely : Prop := foldPartsRow.holds Tryz.pinned (OpenSpec.ofChange foldPartsWrong)

/- THE SECOND FORM. 'bulk': how many values and letters a reading holds, each counted each time it is reached (what is shared counts as often as it is met; a slice's spare places count too). A statement '..UptoSaid' is the law's where the arguments, and the package variables that the reading takes, are together of bulk at most 1048576: NARROWER than '..Said'. Prove '..Said' where nothing that the law and all that it calls make is longer than what came in: it says more and counts as full. Else prove '..UptoSaid'. A law counts once. -/
mutual
def uptoBulk {H : Type} : DataW H → Nat
  | .lit (.string bytes) => bytes.length + 1
  | .lit _ => 1
  | .nil => 1
  | .ptr d => uptoBulk d + 1
  | .slice elems spare => uptoBulkAll elems + uptoBulkAll spare + 1
  | .agg parts => uptoBulkAll parts + 1
  | .iface _ d => uptoBulk d + 1
  | .map entries => uptoBulkEntries entries + 1
  | .held _ => 1
def uptoBulkAll {H : Type} : List (DataW H) → Nat
  | [] => 0
  | d :: r => uptoBulk d + uptoBulkAll r
def uptoBulkEntries {H : Type} : List (Lit × DataW H) → Nat
  | [] => 0
  | x :: r => uptoBulkEntry x + uptoBulkEntries r
def uptoBulkEntry {H : Type} : Lit × DataW H → Nat
  | (.string bytes, d) => bytes.length + uptoBulk d + 1
  | (_, d) => uptoBulk d + 1
 end
def uptoSmall : (H : Type) → List (DataW H) → Bool := fun _ ds => decide (uptoBulkAll ds ≤ 1048576)
def OpenSpec.upto (s : _root_.Go.ChangeSpec) : _root_.Go.OpenSpec := { _root_.Go.OpenSpec.ofChange s with cond := some uptoSmall }

/-- 'tracerylaw14.FoldSkips', WHERE WHAT IT READS IS OF BULK AT MOST 1048576: true; the input reads as it did. -/
def foldSkipsUptoRow : OpenClaim := { program := "ytpkfpbpbkabkdaagreat", sum := "16bc0caf2b44523ad8d85e7185a84d0a562a26f476096b576d75d832d0510c8f", func := "tracery/tracerylaw14.FoldSkips", spec := "foldSkips", inPlace := ["slices.overlaps[tracery/api.Vertex]", "slices.overlaps[tracery/api.Edge]", "slices.overlaps[tracery/api.Gone]"], unfollowed := true, recurses := true, plainKeys := false, apart := false, narrowed := true }
def FoldSkipsUptoSaid : Prop := foldSkipsUptoRow.holds Tryz.pinned (OpenSpec.upto foldSkipsSpec)

/-- 'tracerylaw14.FoldOwn', WHERE WHAT IT READS IS OF BULK AT MOST 1048576: true; the input reads as it did. -/
def foldOwnUptoRow : OpenClaim := { program := "ytpkfpbpbkabkdaagreat", sum := "16bc0caf2b44523ad8d85e7185a84d0a562a26f476096b576d75d832d0510c8f", func := "tracery/tracerylaw14.FoldOwn", spec := "foldOwn", inPlace := ["slices.overlaps[tracery/api.Vertex]", "slices.overlaps[tracery/api.Edge]", "slices.overlaps[tracery/api.Gone]"], unfollowed := true, recurses := true, plainKeys := false, apart := false, narrowed := true }
def FoldOwnUptoSaid : Prop := foldOwnUptoRow.holds Tryz.pinned (OpenSpec.upto foldOwnSpec)

/-- 'tracerylaw18.HistFull', WHERE WHAT IT READS IS OF BULK AT MOST 1048576: true; the input reads as it did. -/
def histFullUptoRow : OpenClaim := { program := "ytpkfpbpbkabkdaagreat", sum := "16bc0caf2b44523ad8d85e7185a84d0a562a26f476096b576d75d832d0510c8f", func := "tracery/tracerylaw18.HistFull", spec := "histFull", inPlace := ["slices.overlaps[tracery/api.Vertex]", "slices.overlaps[tracery/api.Edge]", "slices.overlaps[tracery/api.Gone]"], unfollowed := true, recurses := true, plainKeys := false, apart := false, narrowed := true }
def HistFullUptoSaid : Prop := histFullUptoRow.holds Tryz.pinned (OpenSpec.upto histFullSpec)

/-- 'tracerylaw18.HistParts', WHERE WHAT IT READS IS OF BULK AT MOST 1048576: true; the input reads as it did. -/
def histPartsUptoRow : OpenClaim := { program := "ytpkfpbpbkabkdaagreat", sum := "16bc0caf2b44523ad8d85e7185a84d0a562a26f476096b576d75d832d0510c8f", func := "tracery/tracerylaw18.HistParts", spec := "histParts", inPlace := ["slices.overlaps[tracery/api.Vertex]", "slices.overlaps[tracery/api.Edge]", "slices.overlaps[tracery/api.Gone]"], unfollowed := true, recurses := true, plainKeys := false, apart := false, narrowed := true }
def HistPartsUptoSaid : Prop := histPartsUptoRow.holds Tryz.pinned (OpenSpec.upto histPartsSpec)

/-- 'tracerylaw18.HistPlays', WHERE WHAT IT READS IS OF BULK AT MOST 1048576: true; the input reads as it did. -/
def histPlaysUptoRow : OpenClaim := { program := "ytpkfpbpbkabkdaagreat", sum := "16bc0caf2b44523ad8d85e7185a84d0a562a26f476096b576d75d832d0510c8f", func := "tracery/tracerylaw18.HistPlays", spec := "histPlays", inPlace := ["slices.overlaps[tracery/api.Vertex]", "slices.overlaps[tracery/api.Edge]", "slices.overlaps[tracery/api.Gone]"], unfollowed := true, recurses := true, plainKeys := false, apart := false, narrowed := true }
def HistPlaysUptoSaid : Prop := histPlaysUptoRow.holds Tryz.pinned (OpenSpec.upto histPlaysSpec)

/-- 'tracerylaw13.InverseMay', WHERE WHAT IT READS IS OF BULK AT MOST 1048576: true; the input reads as it did. -/
def inverseMayUptoRow : OpenClaim := { program := "ytpkfpbpbkabkdaagreat", sum := "16bc0caf2b44523ad8d85e7185a84d0a562a26f476096b576d75d832d0510c8f", func := "tracery/tracerylaw13.InverseMay", spec := "inverseMay", inPlace := ["slices.overlaps[tracery/api.Vertex]", "slices.overlaps[tracery/api.Edge]", "slices.overlaps[tracery/api.Gone]"], unfollowed := true, recurses := true, plainKeys := false, apart := false, narrowed := true }
def InverseMayUptoSaid : Prop := inverseMayUptoRow.holds Tryz.pinned (OpenSpec.upto inverseMaySpec)

/-- 'tracerylaw13.InverseParts', WHERE WHAT IT READS IS OF BULK AT MOST 1048576: true; the input reads as it did. -/
def inversePartsUptoRow : OpenClaim := { program := "ytpkfpbpbkabkdaagreat", sum := "16bc0caf2b44523ad8d85e7185a84d0a562a26f476096b576d75d832d0510c8f", func := "tracery/tracerylaw13.InverseParts", spec := "inverseParts", inPlace := ["slices.overlaps[tracery/api.Vertex]", "slices.overlaps[tracery/api.Edge]", "slices.overlaps[tracery/api.Gone]"], unfollowed := true, recurses := true, plainKeys := false, apart := false, narrowed := true }
def InversePartsUptoSaid : Prop := inversePartsUptoRow.holds Tryz.pinned (OpenSpec.upto inversePartsSpec)

/-- 'tracerylaw13.InverseOne', WHERE WHAT IT READS IS OF BULK AT MOST 1048576: true; the input reads as it did. -/
def inverseOneUptoRow : OpenClaim := { program := "ytpkfpbpbkabkdaagreat", sum := "16bc0caf2b44523ad8d85e7185a84d0a562a26f476096b576d75d832d0510c8f", func := "tracery/tracerylaw13.InverseOne", spec := "inverseOne", inPlace := ["slices.overlaps[tracery/api.Vertex]", "slices.overlaps[tracery/api.Edge]", "slices.overlaps[tracery/api.Gone]"], unfollowed := true, recurses := true, plainKeys := false, apart := false, narrowed := true }
def InverseOneUptoSaid : Prop := inverseOneUptoRow.holds Tryz.pinned (OpenSpec.upto inverseOneSpec)

/-- 'tracerylaw13.InverseBack', WHERE WHAT IT READS IS OF BULK AT MOST 1048576: true; the input reads as it did. -/
def inverseBackUptoRow : OpenClaim := { program := "ytpkfpbpbkabkdaagreat", sum := "16bc0caf2b44523ad8d85e7185a84d0a562a26f476096b576d75d832d0510c8f", func := "tracery/tracerylaw13.InverseBack", spec := "inverseBack", inPlace := ["slices.overlaps[tracery/api.Vertex]", "slices.overlaps[tracery/api.Edge]", "slices.overlaps[tracery/api.Gone]"], unfollowed := true, recurses := true, plainKeys := false, apart := false, narrowed := true }
def InverseBackUptoSaid : Prop := inverseBackUptoRow.holds Tryz.pinned (OpenSpec.upto inverseBackSpec)

/-- 'tracerylaw13.InverseTwice', WHERE WHAT IT READS IS OF BULK AT MOST 1048576: true; the input reads as it did. -/
def inverseTwiceUptoRow : OpenClaim := { program := "ytpkfpbpbkabkdaagreat", sum := "16bc0caf2b44523ad8d85e7185a84d0a562a26f476096b576d75d832d0510c8f", func := "tracery/tracerylaw13.InverseTwice", spec := "inverseTwice", inPlace := ["slices.overlaps[tracery/api.Vertex]", "slices.overlaps[tracery/api.Edge]", "slices.overlaps[tracery/api.Gone]"], unfollowed := true, recurses := true, plainKeys := false, apart := false, narrowed := true }
def InverseTwiceUptoSaid : Prop := inverseTwiceUptoRow.holds Tryz.pinned (OpenSpec.upto inverseTwiceSpec)

/-- 'tracerylaw14.FoldUndo', WHERE WHAT IT READS IS OF BULK AT MOST 1048576: true; the input reads as it did. -/
def foldUndoUptoRow : OpenClaim := { program := "ytpkfpbpbkabkdaagreat", sum := "16bc0caf2b44523ad8d85e7185a84d0a562a26f476096b576d75d832d0510c8f", func := "tracery/tracerylaw14.FoldUndo", spec := "foldUndo", inPlace := ["slices.overlaps[tracery/api.Vertex]", "slices.overlaps[tracery/api.Edge]", "slices.overlaps[tracery/api.Gone]"], unfollowed := true, recurses := true, plainKeys := false, apart := false, narrowed := true }
def FoldUndoUptoSaid : Prop := foldUndoUptoRow.holds Tryz.pinned (OpenSpec.upto foldUndoSpec)

/-- 'tracerylaw14.FoldParts', WHERE WHAT IT READS IS OF BULK AT MOST 1048576: true; the input reads as it did. -/
def foldPartsUptoRow : OpenClaim := { program := "ytpkfpbpbkabkdaagreat", sum := "16bc0caf2b44523ad8d85e7185a84d0a562a26f476096b576d75d832d0510c8f", func := "tracery/tracerylaw14.FoldParts", spec := "foldParts", inPlace := ["slices.overlaps[tracery/api.Vertex]", "slices.overlaps[tracery/api.Edge]", "slices.overlaps[tracery/api.Gone]"], unfollowed := true, recurses := true, plainKeys := false, apart := false, narrowed := true }
def FoldPartsUptoSaid : Prop := foldPartsUptoRow.holds Tryz.pinned (OpenSpec.upto foldPartsSpec)

end Rows
end Go.Proofs.YtpkfpbpbkabkdaaGreat
