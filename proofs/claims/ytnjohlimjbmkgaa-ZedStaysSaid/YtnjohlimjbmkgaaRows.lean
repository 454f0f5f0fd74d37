/-
  No cell of these rows narrows 'for every input' (looked for: loops, veiled, ifaces, maps, wideKeys, modest, calm, conditions, laid).
  DERIVED. THE GIVEN ROWS OF THIS SEAT. 12 by the template 'for every input the law returns true; each argument reads behind the call as it read before'; 0 by the template 'total and deterministic' (their statements: YtnjohlimjbmkgaaTotals.lean).
  GIVEN WITH THE SEED: the statements are not yours to turn. If you find one false, say at which input.
  Laid BY PROGRAM, IN A SANDBOX (cutbox-rows.mjs): the forced cells as the released guide's own fill.sh prints them over the translation 533038a4a37d65e3… (all of the seat's roots in one cut). By AI agents, Wed Nov 11 2026. No macro, syntax, notation, axiom, sorry.
-/
import Derived.Test.YtnjohlimjbmkgaaChecked
import GoSem.Claim
import GoSem.ClaimJoined
import GoSem.ClaimMapViews
import Derived.JoinedTies
import Derived.KernelRfl
namespace Go.Proofs.Ytnjohlimjbmkgaa
/- THE CELL 'sum', in the pinned program and in every row, IS THE sha256 OF THE DUMP (.gsa) THAT YtnjohlimjbmkgaaProg.lean LOADS. Nothing in Lean hashes anything: it is a label: what it is worth is what the hold of that sum in a sandbox is worth. -/
noncomputable def Try.pinned : Pinned := { name := "ytnjohlimjbmkgaa", sum := "533038a4a37d65e3ee6fd616a4be90210aadef721becc30228126e0da697ed6a", checked := Try.checked }
namespace Rows
def none {H : Type} : Left H := { results := [], args := [] }

/-- 'pelliclelaw02.ZedSums': WHATEVER THE INPUT: true; the input reads as it did. -/
def zedSumsSpec : ChangeSpec := { name := "zedSums", fn := fun _ => fun
  | [d] => { results := [.lit (.bool true)], args := [d] }
  | _ => none }
def zedSumsRow : OpenClaim := { program := "ytnjohlimjbmkgaa", sum := "533038a4a37d65e3ee6fd616a4be90210aadef721becc30228126e0da697ed6a", func := "pellicle/pelliclelaw02.ZedSums", spec := "zedSums", apart := false }
def ZedSumsSaid : Prop := zedSumsRow.holds Try.pinned (OpenSpec.ofChange zedSumsSpec)

/-- ITS FALSE NEIGHBOUR: 'it returns false'. Refute it at one input. -/
def zedSumsWrong : ChangeSpec := { name := "zedSums", fn := fun _ => fun
  | [d] => { results := [.lit (.bool false)], args := [d] }
  | _ => none }
def ZedSumsWrongFalsely : Prop := zedSumsRow.holds Try.pinned (OpenSpec.ofChange zedSumsWrong)

/-- 'pelliclelaw02.ZedFloors': WHATEVER THE INPUT: true; the input reads as it did. -/
def zedFloorsSpec : ChangeSpec := { name := "zedFloors", fn := fun _ => fun
  | [d1, d2] => { results := [.lit (.bool true)], args := [d1, d2] }
  | _ => none }
def zedFloorsRow : OpenClaim := { program := "ytnjohlimjbmkgaa", sum := "533038a4a37d65e3ee6fd616a4be90210aadef721becc30228126e0da697ed6a", func := "pellicle/pelliclelaw02.ZedFloors", spec := "zedFloors", apart := false }
def ZedFloorsSaid : Prop := zedFloorsRow.holds Try.pinned (OpenSpec.ofChange zedFloorsSpec)

/-- ITS FALSE NEIGHBOUR: 'it returns false'. Refute it at one input. -/
def zedFloorsWrong : ChangeSpec := { name := "zedFloors", fn := fun _ => fun
  | [d1, d2] => { results := [.lit (.bool false)], args := [d1, d2] }
  | _ => none }
def ZedFloorsWrongFalsely : Prop := zedFloorsRow.holds Try.pinned (OpenSpec.ofChange zedFloorsWrong)

/-- 'pelliclelaw02.ZedAdds': WHATEVER THE INPUT: true; the input reads as it did. -/
def zedAddsSpec : ChangeSpec := { name := "zedAdds", fn := fun _ => fun
  | [d1, d2] => { results := [.lit (.bool true)], args := [d1, d2] }
  | _ => none }
def zedAddsRow : OpenClaim := { program := "ytnjohlimjbmkgaa", sum := "533038a4a37d65e3ee6fd616a4be90210aadef721becc30228126e0da697ed6a", func := "pellicle/pelliclelaw02.ZedAdds", spec := "zedAdds", apart := false }
def ZedAddsSaid : Prop := zedAddsRow.holds Try.pinned (OpenSpec.ofChange zedAddsSpec)

/-- ITS FALSE NEIGHBOUR: 'it returns false'. Refute it at one input. -/
def zedAddsWrong : ChangeSpec := { name := "zedAdds", fn := fun _ => fun
  | [d1, d2] => { results := [.lit (.bool false)], args := [d1, d2] }
  | _ => none }
def ZedAddsWrongFalsely : Prop := zedAddsRow.holds Try.pinned (OpenSpec.ofChange zedAddsWrong)

/-- 'pelliclelaw02.ZedTimes': WHATEVER THE INPUT: true; the input reads as it did. -/
def zedTimesSpec : ChangeSpec := { name := "zedTimes", fn := fun _ => fun
  | [d1, d2] => { results := [.lit (.bool true)], args := [d1, d2] }
  | _ => none }
def zedTimesRow : OpenClaim := { program := "ytnjohlimjbmkgaa", sum := "533038a4a37d65e3ee6fd616a4be90210aadef721becc30228126e0da697ed6a", func := "pellicle/pelliclelaw02.ZedTimes", spec := "zedTimes", apart := false }
def ZedTimesSaid : Prop := zedTimesRow.holds Try.pinned (OpenSpec.ofChange zedTimesSpec)

/-- ITS FALSE NEIGHBOUR: 'it returns false'. Refute it at one input. -/
def zedTimesWrong : ChangeSpec := { name := "zedTimes", fn := fun _ => fun
  | [d1, d2] => { results := [.lit (.bool false)], args := [d1, d2] }
  | _ => none }
def ZedTimesWrongFalsely : Prop := zedTimesRow.holds Try.pinned (OpenSpec.ofChange zedTimesWrong)

/-- 'pelliclelaw02.ZedSmall': WHATEVER THE INPUT: true; the input reads as it did. -/
def zedSmallSpec : ChangeSpec := { name := "zedSmall", fn := fun _ => fun
  | [d1, d2] => { results := [.lit (.bool true)], args := [d1, d2] }
  | _ => none }
def zedSmallRow : OpenClaim := { program := "ytnjohlimjbmkgaa", sum := "533038a4a37d65e3ee6fd616a4be90210aadef721becc30228126e0da697ed6a", func := "pellicle/pelliclelaw02.ZedSmall", spec := "zedSmall", apart := false }
def ZedSmallSaid : Prop := zedSmallRow.holds Try.pinned (OpenSpec.ofChange zedSmallSpec)

/-- ITS FALSE NEIGHBOUR: 'it returns false'. Refute it at one input. -/
def zedSmallWrong : ChangeSpec := { name := "zedSmall", fn := fun _ => fun
  | [d1, d2] => { results := [.lit (.bool false)], args := [d1, d2] }
  | _ => none }
def ZedSmallWrongFalsely : Prop := zedSmallRow.holds Try.pinned (OpenSpec.ofChange zedSmallWrong)

/-- 'pelliclelaw02.ZedRing': WHATEVER THE INPUT: true; the input reads as it did. -/
def zedRingSpec : ChangeSpec := { name := "zedRing", fn := fun _ => fun
  | [d1, d2, d3] => { results := [.lit (.bool true)], args := [d1, d2, d3] }
  | _ => none }
def zedRingRow : OpenClaim := { program := "ytnjohlimjbmkgaa", sum := "533038a4a37d65e3ee6fd616a4be90210aadef721becc30228126e0da697ed6a", func := "pellicle/pelliclelaw02.ZedRing", spec := "zedRing", apart := false }
def ZedRingSaid : Prop := zedRingRow.holds Try.pinned (OpenSpec.ofChange zedRingSpec)

/-- ITS FALSE NEIGHBOUR: 'it returns false'. Refute it at one input. -/
def zedRingWrong : ChangeSpec := { name := "zedRing", fn := fun _ => fun
  | [d1, d2, d3] => { results := [.lit (.bool false)], args := [d1, d2, d3] }
  | _ => none }
def ZedRingWrongFalsely : Prop := zedRingRow.holds Try.pinned (OpenSpec.ofChange zedRingWrong)

/-- 'pelliclelaw02.ZedReads': WHATEVER THE INPUT: true; the input reads as it did. -/
def zedReadsSpec : ChangeSpec := { name := "zedReads", fn := fun _ => fun
  | [d] => { results := [.lit (.bool true)], args := [d] }
  | _ => none }
def zedReadsRow : OpenClaim := { program := "ytnjohlimjbmkgaa", sum := "533038a4a37d65e3ee6fd616a4be90210aadef721becc30228126e0da697ed6a", func := "pellicle/pelliclelaw02.ZedReads", spec := "zedReads", apart := false }
def ZedReadsSaid : Prop := zedReadsRow.holds Try.pinned (OpenSpec.ofChange zedReadsSpec)

/-- ITS FALSE NEIGHBOUR: 'it returns false'. Refute it at one input. -/
def zedReadsWrong : ChangeSpec := { name := "zedReads", fn := fun _ => fun
  | [d] => { results := [.lit (.bool false)], args := [d] }
  | _ => none }
def ZedReadsWrongFalsely : Prop := zedReadsRow.holds Try.pinned (OpenSpec.ofChange zedReadsWrong)

/-- 'pelliclelaw02.ZedStays': WHATEVER THE INPUT: true; the input reads as it did. -/
def zedStaysSpec : ChangeSpec := { name := "zedStays", fn := fun _ => fun
  | [d1, d2] => { results := [.lit (.bool true)], args := [d1, d2] }
  | _ => none }
def zedStaysRow : OpenClaim := { program := "ytnjohlimjbmkgaa", sum := "533038a4a37d65e3ee6fd616a4be90210aadef721becc30228126e0da697ed6a", func := "pellicle/pelliclelaw02.ZedStays", spec := "zedStays", apart := false }
def ZedStaysSaid : Prop := zedStaysRow.holds Try.pinned (OpenSpec.ofChange zedStaysSpec)

/-- ITS FALSE NEIGHBOUR: 'it returns false'. Refute it at one input. -/
def zedStaysWrong : ChangeSpec := { name := "zedStays", fn := fun _ => fun
  | [d1, d2] => { results := [.lit (.bool false)], args := [d1, d2] }
  | _ => none }
def ZedStaysWrongFalsely : Prop := zedStaysRow.holds Try.pinned (OpenSpec.ofChange zedStaysWrong)

/-- 'pelliclelaw02.ZedBezout': WHATEVER THE INPUT: true; the input reads as it did. -/
def zedBezoutSpec : ChangeSpec := { name := "zedBezout", fn := fun _ => fun
  | [d1, d2] => { results := [.lit (.bool true)], args := [d1, d2] }
  | _ => none }
def zedBezoutRow : OpenClaim := { program := "ytnjohlimjbmkgaa", sum := "533038a4a37d65e3ee6fd616a4be90210aadef721becc30228126e0da697ed6a", func := "pellicle/pelliclelaw02.ZedBezout", spec := "zedBezout", apart := false }
def ZedBezoutSaid : Prop := zedBezoutRow.holds Try.pinned (OpenSpec.ofChange zedBezoutSpec)

/-- ITS FALSE NEIGHBOUR: 'it returns false'. Refute it at one input. -/
def zedBezoutWrong : ChangeSpec := { name := "zedBezout", fn := fun _ => fun
  | [d1, d2] => { results := [.lit (.bool false)], args := [d1, d2] }
  | _ => none }
def ZedBezoutWrongFalsely : Prop := zedBezoutRow.holds Try.pinned (OpenSpec.ofChange zedBezoutWrong)

/-- 'pelliclelaw05.RealDecodes': WHATEVER THE INPUT: true; the input reads as it did. -/
def realDecodesSpec : ChangeSpec := { name := "realDecodes", fn := fun _ => fun
  | [d] => { results := [.lit (.bool true)], args := [d] }
  | _ => none }
def realDecodesRow : OpenClaim := { program := "ytnjohlimjbmkgaa", sum := "533038a4a37d65e3ee6fd616a4be90210aadef721becc30228126e0da697ed6a", func := "pellicle/pelliclelaw05.RealDecodes", spec := "realDecodes", apart := false }
def RealDecodesSaid : Prop := realDecodesRow.holds Try.pinned (OpenSpec.ofChange realDecodesSpec)

/-- ITS FALSE NEIGHBOUR: 'it returns false'. Refute it at one input. -/
def realDecodesWrong : ChangeSpec := { name := "realDecodes", fn := fun _ => fun
  | [d] => { results := [.lit (.bool false)], args := [d] }
  | _ => none }
def RealDecodesWrongFalsely : Prop := realDecodesRow.holds Try.pinned (OpenSpec.ofChange realDecodesWrong)

/-- 'pelliclelaw05.RealOrder': WHATEVER THE INPUT: true; the input reads as it did. -/
def realOrderSpec : ChangeSpec := { name := "realOrder", fn := fun _ => fun
  | [d1, d2] => { results := [.lit (.bool true)], args := [d1, d2] }
  | _ => none }
def realOrderRow : OpenClaim := { program := "ytnjohlimjbmkgaa", sum := "533038a4a37d65e3ee6fd616a4be90210aadef721becc30228126e0da697ed6a", func := "pellicle/pelliclelaw05.RealOrder", spec := "realOrder", apart := false }
def RealOrderSaid : Prop := realOrderRow.holds Try.pinned (OpenSpec.ofChange realOrderSpec)

/-- ITS FALSE NEIGHBOUR: 'it returns false'. Refute it at one input. -/
def realOrderWrong : ChangeSpec := { name := "realOrder", fn := fun _ => fun
  | [d1, d2] => { results := [.lit (.bool false)], args := [d1, d2] }
  | _ => none }
def RealOrderWrongFalsely : Prop := realOrderRow.holds Try.pinned (OpenSpec.ofChange realOrderWrong)

/-- 'pelliclelaw05.RealBack': WHATEVER THE INPUT: true; the input reads as it did. -/
def realBackSpec : ChangeSpec := { name := "realBack", fn := fun _ => fun
  | [d] => { results := [.lit (.bool true)], args := [d] }
  | _ => none }
def realBackRow : OpenClaim := { program := "ytnjohlimjbmkgaa", sum := "533038a4a37d65e3ee6fd616a4be90210aadef721becc30228126e0da697ed6a", func := "pellicle/pelliclelaw05.RealBack", spec := "realBack", apart := false }
def RealBackSaid : Prop := realBackRow.holds Try.pinned (OpenSpec.ofChange realBackSpec)

/-- ITS FALSE NEIGHBOUR: 'it returns false'. Refute it at one input. -/
def realBackWrong : ChangeSpec := { name := "realBack", fn := fun _ => fun
  | [d] => { results := [.lit (.bool false)], args := [d] }
  | _ => none }
def RealBackWrongFalsely : Prop := realBackRow.holds Try.pinned (OpenSpec.ofChange realBackWrong)

/- THE SECOND FORM. 'bulk': how many values and letters a reading holds, each counted each time it is reached (what is shared counts as often as it is met; a slice's spare places count too). A statement '..UptoSaid' is the law's where the arguments, and the package variables that the reading takes, are together of bulk at most 1048576: NARROWER than '..Said'. Prove '..Said' where nothing that the law and all that it calls make is longer than what came in: it says more and counts as full. Else prove '..UptoSaid'. A law counts once. -/
mutual
def uptoBulk {H : Type} : DataW H → Nat
  | .lit (.string bytes) => bytes.length + 1
  | .lit _ => 1
  | .nil => 1
  | .ptr d => uptoBulk d + 1
  | .slice elems spare => uptoBulkAll elems + uptoBulkAll spare + 1
  | .agg parts => uptoBulkAll parts + 1
  | .iface _ d => uptoBulk d + 1
  | .map entries => uptoBulkEntries entries + 1
  | .held _ => 1
def uptoBulkAll {H : Type} : List (DataW H) → Nat
  | [] => 0
  | d :: r => uptoBulk d + uptoBulkAll r
def uptoBulkEntries {H : Type} : List (Lit × DataW H) → Nat
  | [] => 0
  | x :: r => uptoBulkEntry x + uptoBulkEntries r
def uptoBulkEntry {H : Type} : Lit × DataW H → Nat
  | (.string bytes, d) => bytes.length + uptoBulk d + 1
  | (_, d) => uptoBulk d + 1
 end
def uptoSmall : (H : Type) → List (DataW H) → Bool := fun _ ds => decide (uptoBulkAll ds ≤ 1048576)
def OpenSpec.upto (s : _root_.Go.ChangeSpec) : _root_.Go.OpenSpec := { _root_.Go.OpenSpec.ofChange s with cond := some uptoSmall }

/-- 'pelliclelaw02.ZedSums', WHERE WHAT IT READS IS OF BULK AT MOST 1048576: true; the input reads as it did. -/
def zedSumsUptoRow : OpenClaim := { program := "ytnjohlimjbmkgaa", sum := "533038a4a37d65e3ee6fd616a4be90210aadef721becc30228126e0da697ed6a", func := "pellicle/pelliclelaw02.ZedSums", spec := "zedSums", apart := false, narrowed := true }
def ZedSumsUptoSaid : Prop := zedSumsUptoRow.holds Try.pinned (OpenSpec.upto zedSumsSpec)

/-- 'pelliclelaw02.ZedFloors', WHERE WHAT IT READS IS OF BULK AT MOST 1048576: true; the input reads as it did. -/
def zedFloorsUptoRow : OpenClaim := { program := "ytnjohlimjbmkgaa", sum := "533038a4a37d65e3ee6fd616a4be90210aadef721becc30228126e0da697ed6a", func := "pellicle/pelliclelaw02.ZedFloors", spec := "zedFloors", apart := false, narrowed := true }
def ZedFloorsUptoSaid : Prop := zedFloorsUptoRow.holds Try.pinned (OpenSpec.upto zedFloorsSpec)

/-- 'pelliclelaw02.ZedAdds', WHERE WHAT IT READS IS OF BULK AT MOST 1048576: true; the input reads as it did. -/
def zedAddsUptoRow : OpenClaim := { program := "ytnjohlimjbmkgaa", sum := "533038a4a37d65e3ee6fd616a4be90210aadef721becc30228126e0da697ed6a", func := "pellicle/pelliclelaw02.ZedAdds", spec := "zedAdds", apart := false, narrowed := true }
def ZedAddsUptoSaid : Prop := zedAddsUptoRow.holds Try.pinned (OpenSpec.upto zedAddsSpec)

/-- 'pelliclelaw02.ZedTimes', WHERE WHAT IT READS IS OF BULK AT MOST 1048576: true; the input reads as it did. -/
def zedTimesUptoRow : OpenClaim := { program := "ytnjohlimjbmkgaa", sum := "533038a4a37d65e3ee6fd616a4be90210aadef721becc30228126e0da697ed6a", func := "pellicle/pelliclelaw02.ZedTimes", spec := "zedTimes", apart := false, narrowed := true }
def ZedTimesUptoSaid : Prop := zedTimesUptoRow.holds Try.pinned (OpenSpec.upto zedTimesSpec)

/-- 'pelliclelaw02.ZedSmall', WHERE WHAT IT READS IS OF BULK AT MOST 1048576: true; the input reads as it did. -/
def zedSmallUptoRow : OpenClaim := { program := "ytnjohlimjbmkgaa", sum := "533038a4a37d65e3ee6fd616a4be90210aadef721becc30228126e0da697ed6a", func := "pellicle/pelliclelaw02.ZedSmall", spec := "zedSmall", apart := false, narrowed := true }
def ZedSmallUptoSaid : Prop := zedSmallUptoRow.holds Try.pinned (OpenSpec.upto zedSmallSpec)

/-- 'pelliclelaw02.ZedRing', WHERE WHAT IT READS IS OF BULK AT MOST 1048576: true; the input reads as it did. -/
def zedRingUptoRow : OpenClaim := { program := "ytnjohlimjbmkgaa", sum := "533038a4a37d65e3ee6fd616a4be90210aadef721becc30228126e0da697ed6a", func := "pellicle/pelliclelaw02.ZedRing", spec := "zedRing", apart := false, narrowed := true }
def ZedRingUptoSaid : Prop := zedRingUptoRow.holds Try.pinned (OpenSpec.upto zedRingSpec)

/-- 'pelliclelaw02.ZedReads', WHERE WHAT IT READS IS OF BULK AT MOST 1048576: true; the input reads as it did. -/
def zedReadsUptoRow : OpenClaim := { program := "ytnjohlimjbmkgaa", sum := "533038a4a37d65e3ee6fd616a4be90210aadef721becc30228126e0da697ed6a", func := "pellicle/pelliclelaw02.ZedReads", spec := "zedReads", apart := false, narrowed := true }
def ZedReadsUptoSaid : Prop := zedReadsUptoRow.holds Try.pinned (OpenSpec.upto zedReadsSpec)

/-- 'pelliclelaw02.ZedStays', WHERE WHAT IT READS IS OF BULK AT MOST 1048576: true; the input reads as it did. -/
def zedStaysUptoRow : OpenClaim := { program := "ytnjohlimjbmkgaa", sum := "533038a4a37d65e3ee6fd616a4be90210aadef721becc30228126e0da697ed6a", func := "pellicle/pelliclelaw02.ZedStays", spec := "zedStays", apart := false, narrowed := true }
def ZedStaysUptoSaid : Prop := zedStaysUptoRow.holds Try.pinned (OpenSpec.upto zedStaysSpec)

/-- 'pelliclelaw02.ZedBezout', WHERE WHAT IT READS IS OF BULK AT MOST 1048576: true; the input reads as it did. -/
def zedBezoutUptoRow : OpenClaim := { program := "ytnjohlimjbmkgaa", sum := "533038a4a37d65e3ee6fd616a4be90210aadef721becc30228126e0da697ed6a", func := "pellicle/pelliclelaw02.ZedBezout", spec := "zedBezout", apart := false, narrowed := true }
def ZedBezoutUptoSaid : Prop := zedBezoutUptoRow.holds Try.pinned (OpenSpec.upto zedBezoutSpec)

/-- 'pelliclelaw05.RealDecodes', WHERE WHAT IT READS IS OF BULK AT MOST 1048576: true; the input reads as it did. -/
def realDecodesUptoRow : OpenClaim := { program := "ytnjohlimjbmkgaa", sum := "533038a4a37d65e3ee6fd616a4be90210aadef721becc30228126e0da697ed6a", func := "pellicle/pelliclelaw05.RealDecodes", spec := "realDecodes", apart := false, narrowed := true }
def RealDecodesUptoSaid : Prop := realDecodesUptoRow.holds Try.pinned (OpenSpec.upto realDecodesSpec)

/-- 'pelliclelaw05.RealOrder', WHERE WHAT IT READS IS OF BULK AT MOST 1048576: true; the input reads as it did. -/
def realOrderUptoRow : OpenClaim := { program := "ytnjohlimjbmkgaa", sum := "533038a4a37d65e3ee6fd616a4be90210aadef721becc30228126e0da697ed6a", func := "pellicle/pelliclelaw05.RealOrder", spec := "realOrder", apart := false, narrowed := true }
def RealOrderUptoSaid : Prop := realOrderUptoRow.holds Try.pinned (OpenSpec.upto realOrderSpec)

/-- 'pelliclelaw05.RealBack', WHERE WHAT IT READS IS OF BULK AT MOST 1048576: true; the input reads as it did. -/
def realBackUptoRow : OpenClaim := { program := "ytnjohlimjbmkgaa", sum := "533038a4a37d65e3ee6fd616a4be90210aadef721becc30228126e0da697ed6a", func := "pellicle/pelliclelaw05.RealBack", spec := "realBack", apart := false, narrowed := true }
def RealBackUptoSaid : Prop := realBackUptoRow.holds Try.pinned (OpenSpec.upto realBackSpec)

end Rows
end Go.Proofs.Ytnjohlimjbmkgaa
