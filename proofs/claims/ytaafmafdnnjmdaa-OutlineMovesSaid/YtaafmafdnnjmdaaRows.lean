/-
  No cell of these rows narrows 'for every input' (looked for: loops, veiled, ifaces, maps, wideKeys, modest, calm, conditions, laid).
  DERIVED. THE GIVEN ROWS OF THIS SEAT. 4 by the template 'for every input the law returns true; each argument reads behind the call as it read before'; 0 by the template 'total and deterministic' (their statements: YtaafmafdnnjmdaaTotals.lean).
  GIVEN WITH THE SEED: the statements are not yours to turn. If you find one false, say at which input.
  Laid BY PROGRAM, IN A SANDBOX (cutbox-rows.mjs): the forced cells as the released guide's own fill.sh prints them over the translation 69fa2e3e1b92496e… (all of the seat's roots in one cut). By AI agents, Wed Nov 11 2026. No macro, syntax, notation, axiom, sorry.
-/
import Derived.Test.YtaafmafdnnjmdaaChecked
import GoSem.Claim
import GoSem.ClaimJoined
import GoSem.ClaimMapViews
import Derived.JoinedTies
import Derived.KernelRfl
namespace Go.Proofs.Ytaafmafdnnjmdaa
/- THE CELL 'sum', in the pinned program and in every row, IS THE sha256 OF THE DUMP (.gsa) THAT YtaafmafdnnjmdaaProg.lean LOADS. Nothing in Lean hashes anything: it is a label: what it is worth is what the hold of that sum in a sandbox is worth. -/
noncomputable def Try.pinned : Pinned := { name := "ytaafmafdnnjmdaa", sum := "69fa2e3e1b92496e5c237a70233d40af1e23bd4820a4337bac865644e2a92398", checked := Try.checked }
namespace Rows
def none {H : Type} : Left H := { results := [], args := [] }

/-- 'pelliclelaw09.OutlineErrors': WHATEVER THE INPUT: true; the input reads as it did. -/
def outlineErrorsSpec : ChangeSpec := { name := "outlineErrors", fn := fun _ => fun
  | [d1, d2, d3, d4, d5, d6] => { results := [.lit (.bool true)], args := [d1, d2, d3, d4, d5, d6] }
  | _ => none }
def outlineErrorsRow : OpenClaim := { program := "ytaafmafdnnjmdaa", sum := "69fa2e3e1b92496e5c237a70233d40af1e23bd4820a4337bac865644e2a92398", func := "pellicle/pelliclelaw09.OutlineErrors", spec := "outlineErrors", unfollowed := true, recurses := true, apart := false }
def OutlineErrorsSaid : Prop := outlineErrorsRow.holds Try.pinned (OpenSpec.ofChange outlineErrorsSpec)

/-- ITS FALSE NEIGHBOUR: 'it returns false'. Refute it at one input. -/
def outlineErrorsWrong : ChangeSpec := { name := "outlineErrors", fn := fun _ => fun
  | [d1, d2, d3, d4, d5, d6] => { results := [.lit (.bool false)], args := [d1, d2, d3, d4, d5, d6] }
  | _ => none }
def OutlineErrorsWrongFalsely : Prop := outlineErrorsRow.holds Try.pinned (OpenSpec.ofChange outlineErrorsWrong)

/-- 'pelliclelaw09.OutlineStays': WHATEVER THE INPUT: true; the input reads as it did. -/
def outlineStaysSpec : ChangeSpec := { name := "outlineStays", fn := fun _ => fun
  | [d1, d2, d3] => { results := [.lit (.bool true)], args := [d1, d2, d3] }
  | _ => none }
def outlineStaysRow : OpenClaim := { program := "ytaafmafdnnjmdaa", sum := "69fa2e3e1b92496e5c237a70233d40af1e23bd4820a4337bac865644e2a92398", func := "pellicle/pelliclelaw09.OutlineStays", spec := "outlineStays", unfollowed := true, recurses := true, apart := false }
def OutlineStaysSaid : Prop := outlineStaysRow.holds Try.pinned (OpenSpec.ofChange outlineStaysSpec)

/-- ITS FALSE NEIGHBOUR: 'it returns false'. Refute it at one input. -/
def outlineStaysWrong : ChangeSpec := { name := "outlineStays", fn := fun _ => fun
  | [d1, d2, d3] => { results := [.lit (.bool false)], args := [d1, d2, d3] }
  | _ => none }
def OutlineStaysWrongFalsely : Prop := outlineStaysRow.holds Try.pinned (OpenSpec.ofChange outlineStaysWrong)

/-- 'pelliclelaw09.OutlineTwice': WHATEVER THE INPUT: true; the input reads as it did. -/
def outlineTwiceSpec : ChangeSpec := { name := "outlineTwice", fn := fun _ => fun
  | [d] => { results := [.lit (.bool true)], args := [d] }
  | _ => none }
def outlineTwiceRow : OpenClaim := { program := "ytaafmafdnnjmdaa", sum := "69fa2e3e1b92496e5c237a70233d40af1e23bd4820a4337bac865644e2a92398", func := "pellicle/pelliclelaw09.OutlineTwice", spec := "outlineTwice", unfollowed := true, recurses := true, apart := false }
def OutlineTwiceSaid : Prop := outlineTwiceRow.holds Try.pinned (OpenSpec.ofChange outlineTwiceSpec)

/-- ITS FALSE NEIGHBOUR: 'it returns false'. Refute it at one input. -/
def outlineTwiceWrong : ChangeSpec := { name := "outlineTwice", fn := fun _ => fun
  | [d] => { results := [.lit (.bool false)], args := [d] }
  | _ => none }
def OutlineTwiceWrongFalsely : Prop := outlineTwiceRow.holds Try.pinned (OpenSpec.ofChange outlineTwiceWrong)

/-- 'pelliclelaw09.OutlineMoves': WHATEVER THE INPUT: true; the input reads as it did. -/
def outlineMovesSpec : ChangeSpec := { name := "outlineMoves", fn := fun _ => fun
  | [d1, d2, d3, d4] => { results := [.lit (.bool true)], args := [d1, d2, d3, d4] }
  | _ => none }
def outlineMovesRow : OpenClaim := { program := "ytaafmafdnnjmdaa", sum := "69fa2e3e1b92496e5c237a70233d40af1e23bd4820a4337bac865644e2a92398", func := "pellicle/pelliclelaw09.OutlineMoves", spec := "outlineMoves", unfollowed := true, recurses := true, apart := false }
def OutlineMovesSaid : Prop := outlineMovesRow.holds Try.pinned (OpenSpec.ofChange outlineMovesSpec)

/-- ITS FALSE NEIGHBOUR: 'it returns false'. Refute it at one input. -/
def outlineMovesWrong : ChangeSpec := { name := "outlineMoves", fn := fun _ => fun
  | [d1, d2, d3, d4] => { results := [.lit (.bool false)], args := [d1, d2, d3, d4] }
  | _ => none }
def OutlineMovesWrongFalsely : Prop := outlineMovesRow.holds Try.pinned (OpenSpec.ofChange outlineMovesWrong)

/- THE SECOND FORM. 'bulk': how many values and letters a reading holds, each counted each time it is reached (what is shared counts as often as it is met; a slice's spare places count too). A statement '..UptoSaid' is the law's where the arguments, and the package variables that the reading takes, are together of bulk at most 1048576: NARROWER than '..Said'. Prove '..Said' where nothing that the law and all that it calls make is longer than what came in: it says more and counts as full. Else prove '..UptoSaid'. A law counts once. -/
mutual
def uptoBulk {H : Type} : DataW H → Nat
  | .lit (.string bytes) => bytes.length + 1
  | .lit _ => 1
  | .nil => 1
  | .ptr d => uptoBulk d + 1
  | .slice elems spare => uptoBulkAll elems + uptoBulkAll spare + 1
  | .agg parts => uptoBulkAll parts + 1
  | .iface _ d => uptoBulk d + 1
  | .map entries => uptoBulkEntries entries + 1
  | .held _ => 1
def uptoBulkAll {H : Type} : List (DataW H) → Nat
  | [] => 0
  | d :: r => uptoBulk d + uptoBulkAll r
def uptoBulkEntries {H : Type} : List (Lit × DataW H) → Nat
  | [] => 0
  | x :: r => uptoBulkEntry x + uptoBulkEntries r
def uptoBulkEntry {H : Type} : Lit × DataW H → Nat
  | (.string bytes, d) => bytes.length + uptoBulk d + 1
  | (_, d) => uptoBulk d + 1
 end
def uptoSmall : (H : Type) → List (DataW H) → Bool := fun _ ds => decide (uptoBulkAll ds ≤ 1048576)
def OpenSpec.upto (s : _root_.Go.ChangeSpec) : _root_.Go.OpenSpec := { _root_.Go.OpenSpec.ofChange s with cond := some uptoSmall }

/-- 'pelliclelaw09.OutlineErrors', WHERE WHAT IT READS IS OF BULK AT MOST 1048576: true; the input reads as it did. -/
def outlineErrorsUptoRow : OpenClaim := { program := "ytaafmafdnnjmdaa", sum := "69fa2e3e1b92496e5c237a70233d40af1e23bd4820a4337bac865644e2a92398", func := "pellicle/pelliclelaw09.OutlineErrors", spec := "outlineErrors", unfollowed := true, recurses := true, apart := false, narrowed := true }
def OutlineErrorsUptoSaid : Prop := outlineErrorsUptoRow.holds Try.pinned (OpenSpec.upto outlineErrorsSpec)

/-- 'pelliclelaw09.OutlineStays', WHERE WHAT IT READS IS OF BULK AT MOST 1048576: true; the input reads as it did. -/
def outlineStaysUptoRow : OpenClaim := { program := "ytaafmafdnnjmdaa", sum := "69fa2e3e1b92496e5c237a70233d40af1e23bd4820a4337bac865644e2a92398", func := "pellicle/pelliclelaw09.OutlineStays", spec := "outlineStays", unfollowed := true, recurses := true, apart := false, narrowed := true }
def OutlineStaysUptoSaid : Prop := outlineStaysUptoRow.holds Try.pinned (OpenSpec.upto outlineStaysSpec)

/-- 'pelliclelaw09.OutlineTwice', WHERE WHAT IT READS IS OF BULK AT MOST 1048576: true; the input reads as it did. -/
def outlineTwiceUptoRow : OpenClaim := { program := "ytaafmafdnnjmdaa", sum := "69fa2e3e1b92496e5c237a70233d40af1e23bd4820a4337bac865644e2a92398", func := "pellicle/pelliclelaw09.OutlineTwice", spec := "outlineTwice", unfollowed := true, recurses := true, apart := false, narrowed := true }
def OutlineTwiceUptoSaid : Prop := outlineTwiceUptoRow.holds Try.pinned (OpenSpec.upto outlineTwiceSpec)

/-- 'pelliclelaw09.OutlineMoves', WHERE WHAT IT READS IS OF BULK AT MOST 1048576: true; the input reads as it did. -/
def outlineMovesUptoRow : OpenClaim := { program := "ytaafmafdnnjmdaa", sum := "69fa2e3e1b92496e5c237a70233d40af1e23bd4820a4337bac865644e2a92398", func := "pellicle/pelliclelaw09.OutlineMoves", spec := "outlineMoves", unfollowed := true, recurses := true, apart := false, narrowed := true }
def OutlineMovesUptoSaid : Prop := outlineMovesUptoRow.holds Try.pinned (OpenSpec.upto outlineMovesSpec)

end Rows
end Go.Proofs.Ytaafmafdnnjmdaa
