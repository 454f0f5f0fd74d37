/-
  No cell of these rows narrows 'for every input' (looked for: loops, veiled, ifaces, maps, wideKeys, modest, calm, conditions, laid).
  DERIVED. THE GIVEN ROWS OF THIS SEAT. 5 by the template 'for every input the law returns true; each argument reads behind the call as it read before'; 0 by the template 'total and deterministic' (their statements: YtgaaopjagcaojaaGreatTotals.lean).
  GIVEN WITH THE SEED: the statements are not yours to turn. If you find one false, say at which input.
  Laid BY PROGRAM, IN A SANDBOX (cutbox-rows.mjs): the forced cells as the released guide's own fill.sh prints them over the translation 984cd68953288ce6… (all of the seat's roots in one cut). By AI agents, Wed Nov 11 2026. No macro, syntax, notation, axiom, sorry.
-/
import Derived.Test.YtgaaopjagcaojaaGreatChecked
import GoSem.Claim
import GoSem.ClaimJoined
import GoSem.ClaimMapViews
import Derived.JoinedTies
import Derived.KernelRfl
namespace Go.Proofs.YtgaaopjagcaojaaGreat
/- THE CELL 'sum', in the pinned program and in every row, IS THE sha256 OF THE DUMP (.gsa) THAT YtgaaopjagcaojaaGreatProg.lean LOADS. Nothing in Lean hashes anything: it is a label: what it is worth is what the hold of that sum in a sandbox is worth. -/
noncomputable def Tryz.pinned : Pinned := { name := "ytgaaopjagcaojaagreat", sum := "984cd68953288ce6b15d64330c1f27c48b5a12ea92f1883a89ea14aeda9c6f64", checked := Tryz.checked }
namespace Rows
def none {H : Type} : Left H := { results := [], args := [] }

/-- 'pelliclelaw10.FlatShapes': WHATEVER THE INPUT: true; the input reads as it did. -/
def flatShapesSpec : ChangeSpec := { name := "flatShapes", fn := fun _ => fun
  | [d1, d2] => { results := [.lit (.bool true)], args := [d1, d2] }
  | _ => none }
def flatShapesRow : OpenClaim := { program := "ytgaaopjagcaojaagreat", sum := "984cd68953288ce6b15d64330c1f27c48b5a12ea92f1883a89ea14aeda9c6f64", func := "pellicle/pelliclelaw10.FlatShapes", spec := "flatShapes", inPlace := ["internal/bytealg.IndexByte", "internal/bytealg.IndexByteString"], unfollowed := true, recurses := true, apart := false }
def FlatShapesSaid : Prop := flatShapesRow.holds Tryz.pinned (OpenSpec.ofChange flatShapesSpec)

/-- ITS FALSE NEIGHBOUR: 'it returns false'. Refute it at one input. -/
def flatShapesWrong : ChangeSpec := { name := "flatShapes", fn := fun _ => fun
  | [d1, d2] => { results := [.lit (.bool false)], args := [d1, d2] }
  | _ => none }
def FlatShapesWrongFalsely : Prop := flatShapesRow.holds Tryz.pinned (OpenSpec.ofChange flatShapesWrong)

/-- 'pelliclelaw10.FlatCounts': WHATEVER THE INPUT: true; the input reads as it did. -/
def flatCountsSpec : ChangeSpec := { name := "flatCounts", fn := fun _ => fun
  | [d] => { results := [.lit (.bool true)], args := [d] }
  | _ => none }
def flatCountsRow : OpenClaim := { program := "ytgaaopjagcaojaagreat", sum := "984cd68953288ce6b15d64330c1f27c48b5a12ea92f1883a89ea14aeda9c6f64", func := "pellicle/pelliclelaw10.FlatCounts", spec := "flatCounts", inPlace := ["internal/bytealg.IndexByte", "internal/bytealg.IndexByteString"], unfollowed := true, recurses := true, apart := false }
def FlatCountsSaid : Prop := flatCountsRow.holds Tryz.pinned (OpenSpec.ofChange flatCountsSpec)

/-- ITS FALSE NEIGHBOUR: 'it returns false'. Refute it at one input. -/
def flatCountsWrong : ChangeSpec := { name := "flatCounts", fn := fun _ => fun
  | [d] => { results := [.lit (.bool false)], args := [d] }
  | _ => none }
def FlatCountsWrongFalsely : Prop := flatCountsRow.holds Tryz.pinned (OpenSpec.ofChange flatCountsWrong)

/-- 'pelliclelaw10.FlatMoves': WHATEVER THE INPUT: true; the input reads as it did. -/
def flatMovesSpec : ChangeSpec := { name := "flatMoves", fn := fun _ => fun
  | [d1, d2, d3] => { results := [.lit (.bool true)], args := [d1, d2, d3] }
  | _ => none }
def flatMovesRow : OpenClaim := { program := "ytgaaopjagcaojaagreat", sum := "984cd68953288ce6b15d64330c1f27c48b5a12ea92f1883a89ea14aeda9c6f64", func := "pellicle/pelliclelaw10.FlatMoves", spec := "flatMoves", inPlace := ["internal/bytealg.IndexByte", "internal/bytealg.IndexByteString"], unfollowed := true, recurses := true, apart := false }
def FlatMovesSaid : Prop := flatMovesRow.holds Tryz.pinned (OpenSpec.ofChange flatMovesSpec)

/-- ITS FALSE NEIGHBOUR: 'it returns false'. Refute it at one input. -/
def flatMovesWrong : ChangeSpec := { name := "flatMoves", fn := fun _ => fun
  | [d1, d2, d3] => { results := [.lit (.bool false)], args := [d1, d2, d3] }
  | _ => none }
def FlatMovesWrongFalsely : Prop := flatMovesRow.holds Tryz.pinned (OpenSpec.ofChange flatMovesWrong)

/-- 'pelliclelaw10.FlatArrays': WHATEVER THE INPUT: true; the input reads as it did. -/
def flatArraysSpec : ChangeSpec := { name := "flatArrays", fn := fun _ => fun
  | [d1, d2, d3, d4, d5, d6, d7, d8, d9] => { results := [.lit (.bool true)], args := [d1, d2, d3, d4, d5, d6, d7, d8, d9] }
  | _ => none }
def flatArraysRow : OpenClaim := { program := "ytgaaopjagcaojaagreat", sum := "984cd68953288ce6b15d64330c1f27c48b5a12ea92f1883a89ea14aeda9c6f64", func := "pellicle/pelliclelaw10.FlatArrays", spec := "flatArrays", inPlace := ["internal/bytealg.IndexByte", "internal/bytealg.IndexByteString"], unfollowed := true, recurses := true, apart := false }
def FlatArraysSaid : Prop := flatArraysRow.holds Tryz.pinned (OpenSpec.ofChange flatArraysSpec)

/-- ITS FALSE NEIGHBOUR: 'it returns false'. Refute it at one input. -/
def flatArraysWrong : ChangeSpec := { name := "flatArrays", fn := fun _ => fun
  | [d1, d2, d3, d4, d5, d6, d7, d8, d9] => { results := [.lit (.bool false)], args := [d1, d2, d3, d4, d5, d6, d7, d8, d9] }
  | _ => none }
def FlatArraysWrongFalsely : Prop := flatArraysRow.holds Tryz.pinned (OpenSpec.ofChange flatArraysWrong)

/-- 'pelliclelaw10.FlatCycles': WHATEVER THE INPUT: true; the input reads as it did. -/
def flatCyclesSpec : ChangeSpec := { name := "flatCycles", fn := fun _ => fun
  | [d1, d2, d3] => { results := [.lit (.bool true)], args := [d1, d2, d3] }
  | _ => none }
def flatCyclesRow : OpenClaim := { program := "ytgaaopjagcaojaagreat", sum := "984cd68953288ce6b15d64330c1f27c48b5a12ea92f1883a89ea14aeda9c6f64", func := "pellicle/pelliclelaw10.FlatCycles", spec := "flatCycles", inPlace := ["internal/bytealg.IndexByte", "internal/bytealg.IndexByteString"], unfollowed := true, recurses := true, apart := false }
def FlatCyclesSaid : Prop := flatCyclesRow.holds Tryz.pinned (OpenSpec.ofChange flatCyclesSpec)

/-- ITS FALSE NEIGHBOUR: 'it returns false'. Refute it at one input. -/
def flatCyclesWrong : ChangeSpec := { name := "flatCycles", fn := fun _ => fun
  | [d1, d2, d3] => { results := [.lit (.bool false)], args := [d1, d2, d3] }
  | _ => none }
def FlatCyclesWrongFalsely : Prop := flatCyclesRow.holds Tryz.pinned (OpenSpec.ofChange flatCyclesWrong)

/- THE SECOND FORM. 'bulk': how many values and letters a reading holds, each counted each time it is reached (what is shared counts as often as it is met; a slice's spare places count too). A statement '..UptoSaid' is the law's where the arguments, and the package variables that the reading takes, are together of bulk at most 1048576: NARROWER than '..Said'. Prove '..Said' where nothing that the law and all that it calls make is longer than what came in: it says more and counts as full. Else prove '..UptoSaid'. A law counts once. -/
mutual
def uptoBulk {H : Type} : DataW H → Nat
  | .lit (.string bytes) => bytes.length + 1
  | .lit _ => 1
  | .nil => 1
  | .ptr d => uptoBulk d + 1
  | .slice elems spare => uptoBulkAll elems + uptoBulkAll spare + 1
  | .agg parts => uptoBulkAll parts + 1
  | .iface _ d => uptoBulk d + 1
  | .map entries => uptoBulkEntries entries + 1
  | .held _ => 1
def uptoBulkAll {H : Type} : List (DataW H) → Nat
  | [] => 0
  | d :: r => uptoBulk d + uptoBulkAll r
def uptoBulkEntries {H : Type} : List (Lit × DataW H) → Nat
  | [] => 0
  | x :: r => uptoBulkEntry x + uptoBulkEntries r
def uptoBulkEntry {H : Type} : Lit × DataW H → Nat
  | (.string bytes, d) => bytes.length + uptoBulk d + 1
  | (_, d) => uptoBulk d + 1
 end
def uptoSmall : (H : Type) → List (DataW H) → Bool := fun _ ds => decide (uptoBulkAll ds ≤ 1048576)
def OpenSpec.upto (s : _root_.Go.ChangeSpec) : _root_.Go.OpenSpec := { _root_.Go.OpenSpec.ofChange s with cond := some uptoSmall }

/-- 'pelliclelaw10.FlatShapes', WHERE WHAT IT READS IS OF BULK AT MOST 1048576: true; the input reads as it did. -/
def flatShapesUptoRow : OpenClaim := { program := "ytgaaopjagcaojaagreat", sum := "984cd68953288ce6b15d64330c1f27c48b5a12ea92f1883a89ea14aeda9c6f64", func := "pellicle/pelliclelaw10.FlatShapes", spec := "flatShapes", inPlace := ["internal/bytealg.IndexByte", "internal/bytealg.IndexByteString"], unfollowed := true, recurses := true, apart := false, narrowed := true }
def FlatShapesUptoSaid : Prop := flatShapesUptoRow.holds Tryz.pinned (OpenSpec.upto flatShapesSpec)

/-- 'pelliclelaw10.FlatCounts', WHERE WHAT IT READS IS OF BULK AT MOST 1048576: true; the input reads as it did. -/
def flatCountsUptoRow : OpenClaim := { program := "ytgaaopjagcaojaagreat", sum := "984cd68953288ce6b15d64330c1f27c48b5a12ea92f1883a89ea14aeda9c6f64", func := "pellicle/pelliclelaw10.FlatCounts", spec := "flatCounts", inPlace := ["internal/bytealg.IndexByte", "internal/bytealg.IndexByteString"], unfollowed := true, recurses := true, apart := false, narrowed := true }
def FlatCountsUptoSaid : Prop := flatCountsUptoRow.holds Tryz.pinned (OpenSpec.upto flatCountsSpec)

/-- 'pelliclelaw10.FlatMoves', WHERE WHAT IT READS IS OF BULK AT MOST 1048576: true; the input reads as it did. -/
def flatMovesUptoRow : OpenClaim := { program := "ytgaaopjagcaojaagreat", sum := "984cd68953288ce6b15d64330c1f27c48b5a12ea92f1883a89ea14aeda9c6f64", func := "pellicle/pelliclelaw10.FlatMoves", spec := "flatMoves", inPlace := ["internal/bytealg.IndexByte", "internal/bytealg.IndexByteString"], unfollowed := true, recurses := true, apart := false, narrowed := true }
def FlatMovesUptoSaid : Prop := flatMovesUptoRow.holds Tryz.pinned (OpenSpec.upto flatMovesSpec)

/-- 'pelliclelaw10.FlatArrays', WHERE WHAT IT READS IS OF BULK AT MOST 1048576: true; the input reads as it did. -/
def flatArraysUptoRow : OpenClaim := { program := "ytgaaopjagcaojaagreat", sum := "984cd68953288ce6b15d64330c1f27c48b5a12ea92f1883a89ea14aeda9c6f64", func := "pellicle/pelliclelaw10.FlatArrays", spec := "flatArrays", inPlace := ["internal/bytealg.IndexByte", "internal/bytealg.IndexByteString"], unfollowed := true, recurses := true, apart := false, narrowed := true }
def FlatArraysUptoSaid : Prop := flatArraysUptoRow.holds Tryz.pinned (OpenSpec.upto flatArraysSpec)

/-- 'pelliclelaw10.FlatCycles', WHERE WHAT IT READS IS OF BULK AT MOST 1048576: true; the input reads as it did. -/
def flatCyclesUptoRow : OpenClaim := { program := "ytgaaopjagcaojaagreat", sum := "984cd68953288ce6b15d64330c1f27c48b5a12ea92f1883a89ea14aeda9c6f64", func := "pellicle/pelliclelaw10.FlatCycles", spec := "flatCycles", inPlace := ["internal/bytealg.IndexByte", "internal/bytealg.IndexByteString"], unfollowed := true, recurses := true, apart := false, narrowed := true }
def FlatCyclesUptoSaid : Prop := flatCyclesUptoRow.holds Tryz.pinned (OpenSpec.upto flatCyclesSpec)

end Rows
end Go.Proofs.YtgaaopjagcaojaaGreat
