/-
  No cell of these rows narrows 'for every input' (looked for: loops, veiled, ifaces, maps, wideKeys, modest, calm, conditions, laid).
  DERIVED. THE GIVEN ROWS OF THIS SEAT. 11 by the template 'for every input the law returns true; each argument reads behind the call as it read before'; 0 by the template 'total and deterministic' (their statements: YtahfnbbdhhehhaaTotals.lean).
  GIVEN WITH THE SEED: the statements are not yours to turn. If you find one false, say at which input.
  Laid BY PROGRAM, IN A SANDBOX (cutbox-rows.mjs): the forced cells as the released guide's own fill.sh prints them over the translation 4657dfba42edc714… (all of the seat's roots in one cut). By AI agents, Wed Nov 11 2026. No macro, syntax, notation, axiom, sorry.
-/
import Derived.Test.YtahfnbbdhhehhaaChecked
import GoSem.Claim
import GoSem.ClaimJoined
import GoSem.ClaimMapViews
import Derived.JoinedTies
import Derived.KernelRfl
namespace Go.Proofs.Ytahfnbbdhhehhaa
/- THE CELL 'sum', in the pinned program and in every row, IS THE sha256 OF THE DUMP (.gsa) THAT YtahfnbbdhhehhaaProg.lean LOADS. Nothing in Lean hashes anything: it is a label: what it is worth is what the hold of that sum in a sandbox is worth. -/
noncomputable def Try.pinned : Pinned := { name := "ytahfnbbdhhehhaa", sum := "4657dfba42edc7148d9b07959057252d7a6e165962b86c0de486d686a6aeb45b", checked := Try.checked }
namespace Rows
def none {H : Type} : Left H := { results := [], args := [] }

/-- 'pelliclelaw01.NatReads': WHATEVER THE INPUT: true; the input reads as it did. -/
def natReadsSpec : ChangeSpec := { name := "natReads", fn := fun _ => fun
  | [d] => { results := [.lit (.bool true)], args := [d] }
  | _ => none }
def natReadsRow : OpenClaim := { program := "ytahfnbbdhhehhaa", sum := "4657dfba42edc7148d9b07959057252d7a6e165962b86c0de486d686a6aeb45b", func := "pellicle/pelliclelaw01.NatReads", spec := "natReads", apart := false }
def NatReadsSaid : Prop := natReadsRow.holds Try.pinned (OpenSpec.ofChange natReadsSpec)

/-- ITS FALSE NEIGHBOUR: 'it returns false'. Refute it at one input. -/
def natReadsWrong : ChangeSpec := { name := "natReads", fn := fun _ => fun
  | [d] => { results := [.lit (.bool false)], args := [d] }
  | _ => none }
def NatReadsWrongFalsely : Prop := natReadsRow.holds Try.pinned (OpenSpec.ofChange natReadsWrong)

/-- 'pelliclelaw01.NatWords': WHATEVER THE INPUT: true; the input reads as it did. -/
def natWordsSpec : ChangeSpec := { name := "natWords", fn := fun _ => fun
  | [d1, d2] => { results := [.lit (.bool true)], args := [d1, d2] }
  | _ => none }
def natWordsRow : OpenClaim := { program := "ytahfnbbdhhehhaa", sum := "4657dfba42edc7148d9b07959057252d7a6e165962b86c0de486d686a6aeb45b", func := "pellicle/pelliclelaw01.NatWords", spec := "natWords", apart := false }
def NatWordsSaid : Prop := natWordsRow.holds Try.pinned (OpenSpec.ofChange natWordsSpec)

/-- ITS FALSE NEIGHBOUR: 'it returns false'. Refute it at one input. -/
def natWordsWrong : ChangeSpec := { name := "natWords", fn := fun _ => fun
  | [d1, d2] => { results := [.lit (.bool false)], args := [d1, d2] }
  | _ => none }
def NatWordsWrongFalsely : Prop := natWordsRow.holds Try.pinned (OpenSpec.ofChange natWordsWrong)

/-- 'pelliclelaw01.NatTimes': WHATEVER THE INPUT: true; the input reads as it did. -/
def natTimesSpec : ChangeSpec := { name := "natTimes", fn := fun _ => fun
  | [d1, d2] => { results := [.lit (.bool true)], args := [d1, d2] }
  | _ => none }
def natTimesRow : OpenClaim := { program := "ytahfnbbdhhehhaa", sum := "4657dfba42edc7148d9b07959057252d7a6e165962b86c0de486d686a6aeb45b", func := "pellicle/pelliclelaw01.NatTimes", spec := "natTimes", apart := false }
def NatTimesSaid : Prop := natTimesRow.holds Try.pinned (OpenSpec.ofChange natTimesSpec)

/-- ITS FALSE NEIGHBOUR: 'it returns false'. Refute it at one input. -/
def natTimesWrong : ChangeSpec := { name := "natTimes", fn := fun _ => fun
  | [d1, d2] => { results := [.lit (.bool false)], args := [d1, d2] }
  | _ => none }
def NatTimesWrongFalsely : Prop := natTimesRow.holds Try.pinned (OpenSpec.ofChange natTimesWrong)

/-- 'pelliclelaw01.NatDivides': WHATEVER THE INPUT: true; the input reads as it did. -/
def natDividesSpec : ChangeSpec := { name := "natDivides", fn := fun _ => fun
  | [d1, d2] => { results := [.lit (.bool true)], args := [d1, d2] }
  | _ => none }
def natDividesRow : OpenClaim := { program := "ytahfnbbdhhehhaa", sum := "4657dfba42edc7148d9b07959057252d7a6e165962b86c0de486d686a6aeb45b", func := "pellicle/pelliclelaw01.NatDivides", spec := "natDivides", apart := false }
def NatDividesSaid : Prop := natDividesRow.holds Try.pinned (OpenSpec.ofChange natDividesSpec)

/-- ITS FALSE NEIGHBOUR: 'it returns false'. Refute it at one input. -/
def natDividesWrong : ChangeSpec := { name := "natDivides", fn := fun _ => fun
  | [d1, d2] => { results := [.lit (.bool false)], args := [d1, d2] }
  | _ => none }
def NatDividesWrongFalsely : Prop := natDividesRow.holds Try.pinned (OpenSpec.ofChange natDividesWrong)

/-- 'pelliclelaw01.NatShifts': WHATEVER THE INPUT: true; the input reads as it did. -/
def natShiftsSpec : ChangeSpec := { name := "natShifts", fn := fun _ => fun
  | [d1, d2] => { results := [.lit (.bool true)], args := [d1, d2] }
  | _ => none }
def natShiftsRow : OpenClaim := { program := "ytahfnbbdhhehhaa", sum := "4657dfba42edc7148d9b07959057252d7a6e165962b86c0de486d686a6aeb45b", func := "pellicle/pelliclelaw01.NatShifts", spec := "natShifts", apart := false }
def NatShiftsSaid : Prop := natShiftsRow.holds Try.pinned (OpenSpec.ofChange natShiftsSpec)

/-- ITS FALSE NEIGHBOUR: 'it returns false'. Refute it at one input. -/
def natShiftsWrong : ChangeSpec := { name := "natShifts", fn := fun _ => fun
  | [d1, d2] => { results := [.lit (.bool false)], args := [d1, d2] }
  | _ => none }
def NatShiftsWrongFalsely : Prop := natShiftsRow.holds Try.pinned (OpenSpec.ofChange natShiftsWrong)

/-- 'pelliclelaw01.NatRoots': WHATEVER THE INPUT: true; the input reads as it did. -/
def natRootsSpec : ChangeSpec := { name := "natRoots", fn := fun _ => fun
  | [d] => { results := [.lit (.bool true)], args := [d] }
  | _ => none }
def natRootsRow : OpenClaim := { program := "ytahfnbbdhhehhaa", sum := "4657dfba42edc7148d9b07959057252d7a6e165962b86c0de486d686a6aeb45b", func := "pellicle/pelliclelaw01.NatRoots", spec := "natRoots", apart := false }
def NatRootsSaid : Prop := natRootsRow.holds Try.pinned (OpenSpec.ofChange natRootsSpec)

/-- ITS FALSE NEIGHBOUR: 'it returns false'. Refute it at one input. -/
def natRootsWrong : ChangeSpec := { name := "natRoots", fn := fun _ => fun
  | [d] => { results := [.lit (.bool false)], args := [d] }
  | _ => none }
def NatRootsWrongFalsely : Prop := natRootsRow.holds Try.pinned (OpenSpec.ofChange natRootsWrong)

/-- 'pelliclelaw01.NatGcds': WHATEVER THE INPUT: true; the input reads as it did. -/
def natGcdsSpec : ChangeSpec := { name := "natGcds", fn := fun _ => fun
  | [d1, d2] => { results := [.lit (.bool true)], args := [d1, d2] }
  | _ => none }
def natGcdsRow : OpenClaim := { program := "ytahfnbbdhhehhaa", sum := "4657dfba42edc7148d9b07959057252d7a6e165962b86c0de486d686a6aeb45b", func := "pellicle/pelliclelaw01.NatGcds", spec := "natGcds", apart := false }
def NatGcdsSaid : Prop := natGcdsRow.holds Try.pinned (OpenSpec.ofChange natGcdsSpec)

/-- ITS FALSE NEIGHBOUR: 'it returns false'. Refute it at one input. -/
def natGcdsWrong : ChangeSpec := { name := "natGcds", fn := fun _ => fun
  | [d1, d2] => { results := [.lit (.bool false)], args := [d1, d2] }
  | _ => none }
def NatGcdsWrongFalsely : Prop := natGcdsRow.holds Try.pinned (OpenSpec.ofChange natGcdsWrong)

/-- 'pelliclelaw01.NatRing': WHATEVER THE INPUT: true; the input reads as it did. -/
def natRingSpec : ChangeSpec := { name := "natRing", fn := fun _ => fun
  | [d1, d2, d3] => { results := [.lit (.bool true)], args := [d1, d2, d3] }
  | _ => none }
def natRingRow : OpenClaim := { program := "ytahfnbbdhhehhaa", sum := "4657dfba42edc7148d9b07959057252d7a6e165962b86c0de486d686a6aeb45b", func := "pellicle/pelliclelaw01.NatRing", spec := "natRing", apart := false }
def NatRingSaid : Prop := natRingRow.holds Try.pinned (OpenSpec.ofChange natRingSpec)

/-- ITS FALSE NEIGHBOUR: 'it returns false'. Refute it at one input. -/
def natRingWrong : ChangeSpec := { name := "natRing", fn := fun _ => fun
  | [d1, d2, d3] => { results := [.lit (.bool false)], args := [d1, d2, d3] }
  | _ => none }
def NatRingWrongFalsely : Prop := natRingRow.holds Try.pinned (OpenSpec.ofChange natRingWrong)

/-- 'pelliclelaw01.NatBack': WHATEVER THE INPUT: true; the input reads as it did. -/
def natBackSpec : ChangeSpec := { name := "natBack", fn := fun _ => fun
  | [d1, d2] => { results := [.lit (.bool true)], args := [d1, d2] }
  | _ => none }
def natBackRow : OpenClaim := { program := "ytahfnbbdhhehhaa", sum := "4657dfba42edc7148d9b07959057252d7a6e165962b86c0de486d686a6aeb45b", func := "pellicle/pelliclelaw01.NatBack", spec := "natBack", apart := false }
def NatBackSaid : Prop := natBackRow.holds Try.pinned (OpenSpec.ofChange natBackSpec)

/-- ITS FALSE NEIGHBOUR: 'it returns false'. Refute it at one input. -/
def natBackWrong : ChangeSpec := { name := "natBack", fn := fun _ => fun
  | [d1, d2] => { results := [.lit (.bool false)], args := [d1, d2] }
  | _ => none }
def NatBackWrongFalsely : Prop := natBackRow.holds Try.pinned (OpenSpec.ofChange natBackWrong)

/-- 'pelliclelaw01.NatAdds': WHATEVER THE INPUT: true; the input reads as it did. -/
def natAddsSpec : ChangeSpec := { name := "natAdds", fn := fun _ => fun
  | [d1, d2] => { results := [.lit (.bool true)], args := [d1, d2] }
  | _ => none }
def natAddsRow : OpenClaim := { program := "ytahfnbbdhhehhaa", sum := "4657dfba42edc7148d9b07959057252d7a6e165962b86c0de486d686a6aeb45b", func := "pellicle/pelliclelaw01.NatAdds", spec := "natAdds", apart := false }
def NatAddsSaid : Prop := natAddsRow.holds Try.pinned (OpenSpec.ofChange natAddsSpec)

/-- ITS FALSE NEIGHBOUR: 'it returns false'. Refute it at one input. -/
def natAddsWrong : ChangeSpec := { name := "natAdds", fn := fun _ => fun
  | [d1, d2] => { results := [.lit (.bool false)], args := [d1, d2] }
  | _ => none }
def NatAddsWrongFalsely : Prop := natAddsRow.holds Try.pinned (OpenSpec.ofChange natAddsWrong)

/-- 'pelliclelaw01.NatStays': WHATEVER THE INPUT: true; the input reads as it did. -/
def natStaysSpec : ChangeSpec := { name := "natStays", fn := fun _ => fun
  | [d1, d2, d3] => { results := [.lit (.bool true)], args := [d1, d2, d3] }
  | _ => none }
def natStaysRow : OpenClaim := { program := "ytahfnbbdhhehhaa", sum := "4657dfba42edc7148d9b07959057252d7a6e165962b86c0de486d686a6aeb45b", func := "pellicle/pelliclelaw01.NatStays", spec := "natStays", apart := false }
def NatStaysSaid : Prop := natStaysRow.holds Try.pinned (OpenSpec.ofChange natStaysSpec)

/-- ITS FALSE NEIGHBOUR: 'it returns false'. Refute it at one input. -/
def natStaysWrong : ChangeSpec := { name := "natStays", fn := fun _ => fun
  | [d1, d2, d3] => { results := [.lit (.bool false)], args := [d1, d2, d3] }
  | _ => none }
def NatStaysWrongFalsely : Prop := natStaysRow.holds Try.pinned (OpenSpec.ofChange natStaysWrong)

/- THE SECOND FORM. 'bulk': how many values and letters a reading holds, each counted each time it is reached (what is shared counts as often as it is met; a slice's spare places count too). A statement '..UptoSaid' is the law's where the arguments, and the package variables that the reading takes, are together of bulk at most 1048576: NARROWER than '..Said'. Prove '..Said' where nothing that the law and all that it calls make is longer than what came in: it says more and counts as full. Else prove '..UptoSaid'. A law counts once. -/
mutual
def uptoBulk {H : Type} : DataW H → Nat
  | .lit (.string bytes) => bytes.length + 1
  | .lit _ => 1
  | .nil => 1
  | .ptr d => uptoBulk d + 1
  | .slice elems spare => uptoBulkAll elems + uptoBulkAll spare + 1
  | .agg parts => uptoBulkAll parts + 1
  | .iface _ d => uptoBulk d + 1
  | .map entries => uptoBulkEntries entries + 1
  | .held _ => 1
def uptoBulkAll {H : Type} : List (DataW H) → Nat
  | [] => 0
  | d :: r => uptoBulk d + uptoBulkAll r
def uptoBulkEntries {H : Type} : List (Lit × DataW H) → Nat
  | [] => 0
  | x :: r => uptoBulkEntry x + uptoBulkEntries r
def uptoBulkEntry {H : Type} : Lit × DataW H → Nat
  | (.string bytes, d) => bytes.length + uptoBulk d + 1
  | (_, d) => uptoBulk d + 1
 end
def uptoSmall : (H : Type) → List (DataW H) → Bool := fun _ ds => decide (uptoBulkAll ds ≤ 1048576)
def OpenSpec.upto (s : _root_.Go.ChangeSpec) : _root_.Go.OpenSpec := { _root_.Go.OpenSpec.ofChange s with cond := some uptoSmall }

/-- 'pelliclelaw01.NatReads', WHERE WHAT IT READS IS OF BULK AT MOST 1048576: true; the input reads as it did. -/
def natReadsUptoRow : OpenClaim := { program := "ytahfnbbdhhehhaa", sum := "4657dfba42edc7148d9b07959057252d7a6e165962b86c0de486d686a6aeb45b", func := "pellicle/pelliclelaw01.NatReads", spec := "natReads", apart := false, narrowed := true }
def NatReadsUptoSaid : Prop := natReadsUptoRow.holds Try.pinned (OpenSpec.upto natReadsSpec)

/-- 'pelliclelaw01.NatWords', WHERE WHAT IT READS IS OF BULK AT MOST 1048576: true; the input reads as it did. -/
def natWordsUptoRow : OpenClaim := { program := "ytahfnbbdhhehhaa", sum := "4657dfba42edc7148d9b07959057252d7a6e165962b86c0de486d686a6aeb45b", func := "pellicle/pelliclelaw01.NatWords", spec := "natWords", apart := false, narrowed := true }
def NatWordsUptoSaid : Prop := natWordsUptoRow.holds Try.pinned (OpenSpec.upto natWordsSpec)

/-- 'pelliclelaw01.NatTimes', WHERE WHAT IT READS IS OF BULK AT MOST 1048576: true; the input reads as it did. -/
def natTimesUptoRow : OpenClaim := { program := "ytahfnbbdhhehhaa", sum := "4657dfba42edc7148d9b07959057252d7a6e165962b86c0de486d686a6aeb45b", func := "pellicle/pelliclelaw01.NatTimes", spec := "natTimes", apart := false, narrowed := true }
def NatTimesUptoSaid : Prop := natTimesUptoRow.holds Try.pinned (OpenSpec.upto natTimesSpec)

/-- 'pelliclelaw01.NatDivides', WHERE WHAT IT READS IS OF BULK AT MOST 1048576: true; the input reads as it did. -/
def natDividesUptoRow : OpenClaim := { program := "ytahfnbbdhhehhaa", sum := "4657dfba42edc7148d9b07959057252d7a6e165962b86c0de486d686a6aeb45b", func := "pellicle/pelliclelaw01.NatDivides", spec := "natDivides", apart := false, narrowed := true }
def NatDividesUptoSaid : Prop := natDividesUptoRow.holds Try.pinned (OpenSpec.upto natDividesSpec)

/-- 'pelliclelaw01.NatShifts', WHERE WHAT IT READS IS OF BULK AT MOST 1048576: true; the input reads as it did. -/
def natShiftsUptoRow : OpenClaim := { program := "ytahfnbbdhhehhaa", sum := "4657dfba42edc7148d9b07959057252d7a6e165962b86c0de486d686a6aeb45b", func := "pellicle/pelliclelaw01.NatShifts", spec := "natShifts", apart := false, narrowed := true }
def NatShiftsUptoSaid : Prop := natShiftsUptoRow.holds Try.pinned (OpenSpec.upto natShiftsSpec)

/-- 'pelliclelaw01.NatRoots', WHERE WHAT IT READS IS OF BULK AT MOST 1048576: true; the input reads as it did. -/
def natRootsUptoRow : OpenClaim := { program := "ytahfnbbdhhehhaa", sum := "4657dfba42edc7148d9b07959057252d7a6e165962b86c0de486d686a6aeb45b", func := "pellicle/pelliclelaw01.NatRoots", spec := "natRoots", apart := false, narrowed := true }
def NatRootsUptoSaid : Prop := natRootsUptoRow.holds Try.pinned (OpenSpec.upto natRootsSpec)

/-- 'pelliclelaw01.NatGcds', WHERE WHAT IT READS IS OF BULK AT MOST 1048576: true; the input reads as it did. -/
def natGcdsUptoRow : OpenClaim := { program := "ytahfnbbdhhehhaa", sum := "4657dfba42edc7148d9b07959057252d7a6e165962b86c0de486d686a6aeb45b", func := "pellicle/pelliclelaw01.NatGcds", spec := "natGcds", apart := false, narrowed := true }
def NatGcdsUptoSaid : Prop := natGcdsUptoRow.holds Try.pinned (OpenSpec.upto natGcdsSpec)

/-- 'pelliclelaw01.NatRing', WHERE WHAT IT READS IS OF BULK AT MOST 1048576: true; the input reads as it did. -/
def natRingUptoRow : OpenClaim := { program := "ytahfnbbdhhehhaa", sum := "4657dfba42edc7148d9b07959057252d7a6e165962b86c0de486d686a6aeb45b", func := "pellicle/pelliclelaw01.NatRing", spec := "natRing", apart := false, narrowed := true }
def NatRingUptoSaid : Prop := natRingUptoRow.holds Try.pinned (OpenSpec.upto natRingSpec)

/-- 'pelliclelaw01.NatBack', WHERE WHAT IT READS IS OF BULK AT MOST 1048576: true; the input reads as it did. -/
def natBackUptoRow : OpenClaim := { program := "ytahfnbbdhhehhaa", sum := "4657dfba42edc7148d9b07959057252d7a6e165962b86c0de486d686a6aeb45b", func := "pellicle/pelliclelaw01.NatBack", spec := "natBack", apart := false, narrowed := true }
def NatBackUptoSaid : Prop := natBackUptoRow.holds Try.pinned (OpenSpec.upto natBackSpec)

/-- 'pelliclelaw01.NatAdds', WHERE WHAT IT READS IS OF BULK AT MOST 1048576: true; the input reads as it did. -/
def natAddsUptoRow : OpenClaim := { program := "ytahfnbbdhhehhaa", sum := "4657dfba42edc7148d9b07959057252d7a6e165962b86c0de486d686a6aeb45b", func := "pellicle/pelliclelaw01.NatAdds", spec := "natAdds", apart := false, narrowed := true }
def NatAddsUptoSaid : Prop := natAddsUptoRow.holds Try.pinned (OpenSpec.upto natAddsSpec)

/-- 'pelliclelaw01.NatStays', WHERE WHAT IT READS IS OF BULK AT MOST 1048576: true; the input reads as it did. -/
def natStaysUptoRow : OpenClaim := { program := "ytahfnbbdhhehhaa", sum := "4657dfba42edc7148d9b07959057252d7a6e165962b86c0de486d686a6aeb45b", func := "pellicle/pelliclelaw01.NatStays", spec := "natStays", apart := false, narrowed := true }
def NatStaysUptoSaid : Prop := natStaysUptoRow.holds Try.pinned (OpenSpec.upto natStaysSpec)

end Rows
end Go.Proofs.Ytahfnbbdhhehhaa
