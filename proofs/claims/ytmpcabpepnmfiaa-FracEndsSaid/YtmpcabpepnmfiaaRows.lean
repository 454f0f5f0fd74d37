/-
  No cell of these rows narrows 'for every input' (looked for: loops, veiled, ifaces, maps, wideKeys, modest, calm, conditions, laid).
  DERIVED. THE GIVEN ROWS OF THIS SEAT. 19 by the template 'for every input the law returns true; each argument reads behind the call as it read before'; 0 by the template 'total and deterministic' (their statements: YtmpcabpepnmfiaaTotals.lean).
  GIVEN WITH THE SEED: the statements are not yours to turn. If you find one false, say at which input.
  Laid BY PROGRAM, IN A SANDBOX (cutbox-rows.mjs): the forced cells as the released guide's own fill.sh prints them over the translation 175ae7d4e183fcef… (all of the seat's roots in one cut). By AI agents, Wed Nov 11 2026. No macro, syntax, notation, axiom, sorry.
-/
import Derived.Test.YtmpcabpepnmfiaaChecked
import GoSem.Claim
import GoSem.ClaimJoined
import GoSem.ClaimMapViews
import Derived.JoinedTies
import Derived.KernelRfl
namespace Go.Proofs.Ytmpcabpepnmfiaa
/- THE CELL 'sum', in the pinned program and in every row, IS THE sha256 OF THE DUMP (.gsa) THAT YtmpcabpepnmfiaaProg.lean LOADS. Nothing in Lean hashes anything: it is a label: what it is worth is what the hold of that sum in a sandbox is worth. -/
noncomputable def Try.pinned : Pinned := { name := "ytmpcabpepnmfiaa", sum := "175ae7d4e183fcef6d6996d7100e8a32bf2bd5be39ea0a7f300047f067daf2bd", checked := Try.checked }
namespace Rows
def none {H : Type} : Left H := { results := [], args := [] }

/-- 'pelliclelaw02.ZedSums': WHATEVER THE INPUT: true; the input reads as it did. -/
def zedSumsSpec : ChangeSpec := { name := "zedSums", fn := fun _ => fun
  | [d] => { results := [.lit (.bool true)], args := [d] }
  | _ => none }
def zedSumsRow : OpenClaim := { program := "ytmpcabpepnmfiaa", sum := "175ae7d4e183fcef6d6996d7100e8a32bf2bd5be39ea0a7f300047f067daf2bd", func := "pellicle/pelliclelaw02.ZedSums", spec := "zedSums", apart := false }
def ZedSumsSaid : Prop := zedSumsRow.holds Try.pinned (OpenSpec.ofChange zedSumsSpec)

/-- ITS FALSE NEIGHBOUR: 'it returns false'. Refute it at one input. -/
def zedSumsWrong : ChangeSpec := { name := "zedSums", fn := fun _ => fun
  | [d] => { results := [.lit (.bool false)], args := [d] }
  | _ => none }
def ZedSumsWrongFalsely : Prop := zedSumsRow.holds Try.pinned (OpenSpec.ofChange zedSumsWrong)

/-- 'pelliclelaw05.RealDecodes': WHATEVER THE INPUT: true; the input reads as it did. -/
def realDecodesSpec : ChangeSpec := { name := "realDecodes", fn := fun _ => fun
  | [d] => { results := [.lit (.bool true)], args := [d] }
  | _ => none }
def realDecodesRow : OpenClaim := { program := "ytmpcabpepnmfiaa", sum := "175ae7d4e183fcef6d6996d7100e8a32bf2bd5be39ea0a7f300047f067daf2bd", func := "pellicle/pelliclelaw05.RealDecodes", spec := "realDecodes", apart := false }
def RealDecodesSaid : Prop := realDecodesRow.holds Try.pinned (OpenSpec.ofChange realDecodesSpec)

/-- ITS FALSE NEIGHBOUR: 'it returns false'. Refute it at one input. -/
def realDecodesWrong : ChangeSpec := { name := "realDecodes", fn := fun _ => fun
  | [d] => { results := [.lit (.bool false)], args := [d] }
  | _ => none }
def RealDecodesWrongFalsely : Prop := realDecodesRow.holds Try.pinned (OpenSpec.ofChange realDecodesWrong)

/-- 'pelliclelaw05.RealOrder': WHATEVER THE INPUT: true; the input reads as it did. -/
def realOrderSpec : ChangeSpec := { name := "realOrder", fn := fun _ => fun
  | [d1, d2] => { results := [.lit (.bool true)], args := [d1, d2] }
  | _ => none }
def realOrderRow : OpenClaim := { program := "ytmpcabpepnmfiaa", sum := "175ae7d4e183fcef6d6996d7100e8a32bf2bd5be39ea0a7f300047f067daf2bd", func := "pellicle/pelliclelaw05.RealOrder", spec := "realOrder", apart := false }
def RealOrderSaid : Prop := realOrderRow.holds Try.pinned (OpenSpec.ofChange realOrderSpec)

/-- ITS FALSE NEIGHBOUR: 'it returns false'. Refute it at one input. -/
def realOrderWrong : ChangeSpec := { name := "realOrder", fn := fun _ => fun
  | [d1, d2] => { results := [.lit (.bool false)], args := [d1, d2] }
  | _ => none }
def RealOrderWrongFalsely : Prop := realOrderRow.holds Try.pinned (OpenSpec.ofChange realOrderWrong)

/-- 'pelliclelaw05.RealBack': WHATEVER THE INPUT: true; the input reads as it did. -/
def realBackSpec : ChangeSpec := { name := "realBack", fn := fun _ => fun
  | [d] => { results := [.lit (.bool true)], args := [d] }
  | _ => none }
def realBackRow : OpenClaim := { program := "ytmpcabpepnmfiaa", sum := "175ae7d4e183fcef6d6996d7100e8a32bf2bd5be39ea0a7f300047f067daf2bd", func := "pellicle/pelliclelaw05.RealBack", spec := "realBack", apart := false }
def RealBackSaid : Prop := realBackRow.holds Try.pinned (OpenSpec.ofChange realBackSpec)

/-- ITS FALSE NEIGHBOUR: 'it returns false'. Refute it at one input. -/
def realBackWrong : ChangeSpec := { name := "realBack", fn := fun _ => fun
  | [d] => { results := [.lit (.bool false)], args := [d] }
  | _ => none }
def RealBackWrongFalsely : Prop := realBackRow.holds Try.pinned (OpenSpec.ofChange realBackWrong)

/-- 'pelliclelaw05.RealSame': WHATEVER THE INPUT: true; the input reads as it did. -/
def realSameSpec : ChangeSpec := { name := "realSame", fn := fun _ => fun
  | [d1, d2] => { results := [.lit (.bool true)], args := [d1, d2] }
  | _ => none }
def realSameRow : OpenClaim := { program := "ytmpcabpepnmfiaa", sum := "175ae7d4e183fcef6d6996d7100e8a32bf2bd5be39ea0a7f300047f067daf2bd", func := "pellicle/pelliclelaw05.RealSame", spec := "realSame", apart := false }
def RealSameSaid : Prop := realSameRow.holds Try.pinned (OpenSpec.ofChange realSameSpec)

/-- ITS FALSE NEIGHBOUR: 'it returns false'. Refute it at one input. -/
def realSameWrong : ChangeSpec := { name := "realSame", fn := fun _ => fun
  | [d1, d2] => { results := [.lit (.bool false)], args := [d1, d2] }
  | _ => none }
def RealSameWrongFalsely : Prop := realSameRow.holds Try.pinned (OpenSpec.ofChange realSameWrong)

/-- 'pelliclelaw03.FracRounds': WHATEVER THE INPUT: true; the input reads as it did. -/
def fracRoundsSpec : ChangeSpec := { name := "fracRounds", fn := fun _ => fun
  | [d] => { results := [.lit (.bool true)], args := [d] }
  | _ => none }
def fracRoundsRow : OpenClaim := { program := "ytmpcabpepnmfiaa", sum := "175ae7d4e183fcef6d6996d7100e8a32bf2bd5be39ea0a7f300047f067daf2bd", func := "pellicle/pelliclelaw03.FracRounds", spec := "fracRounds", inPlace := ["internal/bytealg.IndexByteString", "internal/bytealg.IndexString"], named := ["internal/bytealg.MaxLen"], apart := false }
def FracRoundsSaid : Prop := fracRoundsRow.holds Try.pinned (OpenSpec.ofChange fracRoundsSpec)

/-- ITS FALSE NEIGHBOUR: 'it returns false'. Refute it at one input. -/
def fracRoundsWrong : ChangeSpec := { name := "fracRounds", fn := fun _ => fun
  | [d] => { results := [.lit (.bool false)], args := [d] }
  | _ => none }
def FracRoundsWrongFalsely : Prop := fracRoundsRow.holds Try.pinned (OpenSpec.ofChange fracRoundsWrong)

/-- 'pelliclelaw03.FracReads': WHATEVER THE INPUT: true; the input reads as it did. -/
def fracReadsSpec : ChangeSpec := { name := "fracReads", fn := fun _ => fun
  | [d] => { results := [.lit (.bool true)], args := [d] }
  | _ => none }
def fracReadsRow : OpenClaim := { program := "ytmpcabpepnmfiaa", sum := "175ae7d4e183fcef6d6996d7100e8a32bf2bd5be39ea0a7f300047f067daf2bd", func := "pellicle/pelliclelaw03.FracReads", spec := "fracReads", inPlace := ["internal/bytealg.IndexByteString", "internal/bytealg.IndexString"], named := ["internal/bytealg.MaxLen"], apart := false }
def FracReadsSaid : Prop := fracReadsRow.holds Try.pinned (OpenSpec.ofChange fracReadsSpec)

/-- ITS FALSE NEIGHBOUR: 'it returns false'. Refute it at one input. -/
def fracReadsWrong : ChangeSpec := { name := "fracReads", fn := fun _ => fun
  | [d] => { results := [.lit (.bool false)], args := [d] }
  | _ => none }
def FracReadsWrongFalsely : Prop := fracReadsRow.holds Try.pinned (OpenSpec.ofChange fracReadsWrong)

/-- 'pelliclelaw03.FracMakes': WHATEVER THE INPUT: true; the input reads as it did. -/
def fracMakesSpec : ChangeSpec := { name := "fracMakes", fn := fun _ => fun
  | [d1, d2] => { results := [.lit (.bool true)], args := [d1, d2] }
  | _ => none }
def fracMakesRow : OpenClaim := { program := "ytmpcabpepnmfiaa", sum := "175ae7d4e183fcef6d6996d7100e8a32bf2bd5be39ea0a7f300047f067daf2bd", func := "pellicle/pelliclelaw03.FracMakes", spec := "fracMakes", inPlace := ["internal/bytealg.IndexByteString", "internal/bytealg.IndexString"], named := ["internal/bytealg.MaxLen"], apart := false }
def FracMakesSaid : Prop := fracMakesRow.holds Try.pinned (OpenSpec.ofChange fracMakesSpec)

/-- ITS FALSE NEIGHBOUR: 'it returns false'. Refute it at one input. -/
def fracMakesWrong : ChangeSpec := { name := "fracMakes", fn := fun _ => fun
  | [d1, d2] => { results := [.lit (.bool false)], args := [d1, d2] }
  | _ => none }
def FracMakesWrongFalsely : Prop := fracMakesRow.holds Try.pinned (OpenSpec.ofChange fracMakesWrong)

/-- 'pelliclelaw03.FracBack': WHATEVER THE INPUT: true; the input reads as it did. -/
def fracBackSpec : ChangeSpec := { name := "fracBack", fn := fun _ => fun
  | [d] => { results := [.lit (.bool true)], args := [d] }
  | _ => none }
def fracBackRow : OpenClaim := { program := "ytmpcabpepnmfiaa", sum := "175ae7d4e183fcef6d6996d7100e8a32bf2bd5be39ea0a7f300047f067daf2bd", func := "pellicle/pelliclelaw03.FracBack", spec := "fracBack", inPlace := ["internal/bytealg.IndexByteString", "internal/bytealg.IndexString"], named := ["internal/bytealg.MaxLen"], apart := false }
def FracBackSaid : Prop := fracBackRow.holds Try.pinned (OpenSpec.ofChange fracBackSpec)

/-- ITS FALSE NEIGHBOUR: 'it returns false'. Refute it at one input. -/
def fracBackWrong : ChangeSpec := { name := "fracBack", fn := fun _ => fun
  | [d] => { results := [.lit (.bool false)], args := [d] }
  | _ => none }
def FracBackWrongFalsely : Prop := fracBackRow.holds Try.pinned (OpenSpec.ofChange fracBackWrong)

/-- 'pelliclelaw03.FracReckons': WHATEVER THE INPUT: true; the input reads as it did. -/
def fracReckonsSpec : ChangeSpec := { name := "fracReckons", fn := fun _ => fun
  | [d1, d2] => { results := [.lit (.bool true)], args := [d1, d2] }
  | _ => none }
def fracReckonsRow : OpenClaim := { program := "ytmpcabpepnmfiaa", sum := "175ae7d4e183fcef6d6996d7100e8a32bf2bd5be39ea0a7f300047f067daf2bd", func := "pellicle/pelliclelaw03.FracReckons", spec := "fracReckons", inPlace := ["internal/bytealg.IndexByteString", "internal/bytealg.IndexString"], named := ["internal/bytealg.MaxLen"], apart := false }
def FracReckonsSaid : Prop := fracReckonsRow.holds Try.pinned (OpenSpec.ofChange fracReckonsSpec)

/-- ITS FALSE NEIGHBOUR: 'it returns false'. Refute it at one input. -/
def fracReckonsWrong : ChangeSpec := { name := "fracReckons", fn := fun _ => fun
  | [d1, d2] => { results := [.lit (.bool false)], args := [d1, d2] }
  | _ => none }
def FracReckonsWrongFalsely : Prop := fracReckonsRow.holds Try.pinned (OpenSpec.ofChange fracReckonsWrong)

/-- 'pelliclelaw03.FracField': WHATEVER THE INPUT: true; the input reads as it did. -/
def fracFieldSpec : ChangeSpec := { name := "fracField", fn := fun _ => fun
  | [d1, d2, d3] => { results := [.lit (.bool true)], args := [d1, d2, d3] }
  | _ => none }
def fracFieldRow : OpenClaim := { program := "ytmpcabpepnmfiaa", sum := "175ae7d4e183fcef6d6996d7100e8a32bf2bd5be39ea0a7f300047f067daf2bd", func := "pellicle/pelliclelaw03.FracField", spec := "fracField", inPlace := ["internal/bytealg.IndexByteString", "internal/bytealg.IndexString"], named := ["internal/bytealg.MaxLen"], apart := false }
def FracFieldSaid : Prop := fracFieldRow.holds Try.pinned (OpenSpec.ofChange fracFieldSpec)

/-- ITS FALSE NEIGHBOUR: 'it returns false'. Refute it at one input. -/
def fracFieldWrong : ChangeSpec := { name := "fracField", fn := fun _ => fun
  | [d1, d2, d3] => { results := [.lit (.bool false)], args := [d1, d2, d3] }
  | _ => none }
def FracFieldWrongFalsely : Prop := fracFieldRow.holds Try.pinned (OpenSpec.ofChange fracFieldWrong)

/-- 'pelliclelaw03.FracEnds': WHATEVER THE INPUT: true; the input reads as it did. -/
def fracEndsSpec : ChangeSpec := { name := "fracEnds", fn := fun _ => fun
  | [d] => { results := [.lit (.bool true)], args := [d] }
  | _ => none }
def fracEndsRow : OpenClaim := { program := "ytmpcabpepnmfiaa", sum := "175ae7d4e183fcef6d6996d7100e8a32bf2bd5be39ea0a7f300047f067daf2bd", func := "pellicle/pelliclelaw03.FracEnds", spec := "fracEnds", inPlace := ["internal/bytealg.IndexByteString", "internal/bytealg.IndexString"], named := ["internal/bytealg.MaxLen"], apart := false }
def FracEndsSaid : Prop := fracEndsRow.holds Try.pinned (OpenSpec.ofChange fracEndsSpec)

/-- ITS FALSE NEIGHBOUR: 'it returns false'. Refute it at one input. -/
def fracEndsWrong : ChangeSpec := { name := "fracEnds", fn := fun _ => fun
  | [d] => { results := [.lit (.bool false)], args := [d] }
  | _ => none }
def FracEndsWrongFalsely : Prop := fracEndsRow.holds Try.pinned (OpenSpec.ofChange fracEndsWrong)

/-- 'pelliclelaw03.FracStays': WHATEVER THE INPUT: true; the input reads as it did. -/
def fracStaysSpec : ChangeSpec := { name := "fracStays", fn := fun _ => fun
  | [d1, d2] => { results := [.lit (.bool true)], args := [d1, d2] }
  | _ => none }
def fracStaysRow : OpenClaim := { program := "ytmpcabpepnmfiaa", sum := "175ae7d4e183fcef6d6996d7100e8a32bf2bd5be39ea0a7f300047f067daf2bd", func := "pellicle/pelliclelaw03.FracStays", spec := "fracStays", inPlace := ["internal/bytealg.IndexByteString", "internal/bytealg.IndexString"], named := ["internal/bytealg.MaxLen"], apart := false }
def FracStaysSaid : Prop := fracStaysRow.holds Try.pinned (OpenSpec.ofChange fracStaysSpec)

/-- ITS FALSE NEIGHBOUR: 'it returns false'. Refute it at one input. -/
def fracStaysWrong : ChangeSpec := { name := "fracStays", fn := fun _ => fun
  | [d1, d2] => { results := [.lit (.bool false)], args := [d1, d2] }
  | _ => none }
def FracStaysWrongFalsely : Prop := fracStaysRow.holds Try.pinned (OpenSpec.ofChange fracStaysWrong)

/-- 'pelliclelaw05.RealEncodes': WHATEVER THE INPUT: true; the input reads as it did. -/
def realEncodesSpec : ChangeSpec := { name := "realEncodes", fn := fun _ => fun
  | [d] => { results := [.lit (.bool true)], args := [d] }
  | _ => none }
def realEncodesRow : OpenClaim := { program := "ytmpcabpepnmfiaa", sum := "175ae7d4e183fcef6d6996d7100e8a32bf2bd5be39ea0a7f300047f067daf2bd", func := "pellicle/pelliclelaw05.RealEncodes", spec := "realEncodes", inPlace := ["internal/bytealg.IndexByteString", "internal/bytealg.IndexString"], named := ["internal/bytealg.MaxLen"], apart := false }
def RealEncodesSaid : Prop := realEncodesRow.holds Try.pinned (OpenSpec.ofChange realEncodesSpec)

/-- ITS FALSE NEIGHBOUR: 'it returns false'. Refute it at one input. -/
def realEncodesWrong : ChangeSpec := { name := "realEncodes", fn := fun _ => fun
  | [d] => { results := [.lit (.bool false)], args := [d] }
  | _ => none }
def RealEncodesWrongFalsely : Prop := realEncodesRow.holds Try.pinned (OpenSpec.ofChange realEncodesWrong)

/-- 'pelliclelaw04.SurdMakes': WHATEVER THE INPUT: true; the input reads as it did. -/
def surdMakesSpec : ChangeSpec := { name := "surdMakes", fn := fun _ => fun
  | [d1, d2, d3] => { results := [.lit (.bool true)], args := [d1, d2, d3] }
  | _ => none }
def surdMakesRow : OpenClaim := { program := "ytmpcabpepnmfiaa", sum := "175ae7d4e183fcef6d6996d7100e8a32bf2bd5be39ea0a7f300047f067daf2bd", func := "pellicle/pelliclelaw04.SurdMakes", spec := "surdMakes", inPlace := ["internal/bytealg.IndexByteString", "internal/bytealg.IndexString"], named := ["internal/bytealg.MaxLen"], apart := false }
def SurdMakesSaid : Prop := surdMakesRow.holds Try.pinned (OpenSpec.ofChange surdMakesSpec)

/-- ITS FALSE NEIGHBOUR: 'it returns false'. Refute it at one input. -/
def surdMakesWrong : ChangeSpec := { name := "surdMakes", fn := fun _ => fun
  | [d1, d2, d3] => { results := [.lit (.bool false)], args := [d1, d2, d3] }
  | _ => none }
def SurdMakesWrongFalsely : Prop := surdMakesRow.holds Try.pinned (OpenSpec.ofChange surdMakesWrong)

/-- 'pelliclelaw04.SurdRing': WHATEVER THE INPUT: true; the input reads as it did. -/
def surdRingSpec : ChangeSpec := { name := "surdRing", fn := fun _ => fun
  | [d1, d2, d3] => { results := [.lit (.bool true)], args := [d1, d2, d3] }
  | _ => none }
def surdRingRow : OpenClaim := { program := "ytmpcabpepnmfiaa", sum := "175ae7d4e183fcef6d6996d7100e8a32bf2bd5be39ea0a7f300047f067daf2bd", func := "pellicle/pelliclelaw04.SurdRing", spec := "surdRing", inPlace := ["internal/bytealg.IndexByteString", "internal/bytealg.IndexString"], named := ["internal/bytealg.MaxLen"], apart := false }
def SurdRingSaid : Prop := surdRingRow.holds Try.pinned (OpenSpec.ofChange surdRingSpec)

/-- ITS FALSE NEIGHBOUR: 'it returns false'. Refute it at one input. -/
def surdRingWrong : ChangeSpec := { name := "surdRing", fn := fun _ => fun
  | [d1, d2, d3] => { results := [.lit (.bool false)], args := [d1, d2, d3] }
  | _ => none }
def SurdRingWrongFalsely : Prop := surdRingRow.holds Try.pinned (OpenSpec.ofChange surdRingWrong)

/-- 'pelliclelaw04.SurdOrders': WHATEVER THE INPUT: true; the input reads as it did. -/
def surdOrdersSpec : ChangeSpec := { name := "surdOrders", fn := fun _ => fun
  | [d1, d2, d3] => { results := [.lit (.bool true)], args := [d1, d2, d3] }
  | _ => none }
def surdOrdersRow : OpenClaim := { program := "ytmpcabpepnmfiaa", sum := "175ae7d4e183fcef6d6996d7100e8a32bf2bd5be39ea0a7f300047f067daf2bd", func := "pellicle/pelliclelaw04.SurdOrders", spec := "surdOrders", inPlace := ["internal/bytealg.IndexByteString", "internal/bytealg.IndexString"], named := ["internal/bytealg.MaxLen"], apart := false }
def SurdOrdersSaid : Prop := surdOrdersRow.holds Try.pinned (OpenSpec.ofChange surdOrdersSpec)

/-- ITS FALSE NEIGHBOUR: 'it returns false'. Refute it at one input. -/
def surdOrdersWrong : ChangeSpec := { name := "surdOrders", fn := fun _ => fun
  | [d1, d2, d3] => { results := [.lit (.bool false)], args := [d1, d2, d3] }
  | _ => none }
def SurdOrdersWrongFalsely : Prop := surdOrdersRow.holds Try.pinned (OpenSpec.ofChange surdOrdersWrong)

/-- 'pelliclelaw04.SurdRoots': WHATEVER THE INPUT: true; the input reads as it did. -/
def surdRootsSpec : ChangeSpec := { name := "surdRoots", fn := fun _ => fun
  | [d1, d2] => { results := [.lit (.bool true)], args := [d1, d2] }
  | _ => none }
def surdRootsRow : OpenClaim := { program := "ytmpcabpepnmfiaa", sum := "175ae7d4e183fcef6d6996d7100e8a32bf2bd5be39ea0a7f300047f067daf2bd", func := "pellicle/pelliclelaw04.SurdRoots", spec := "surdRoots", inPlace := ["internal/bytealg.IndexByteString", "internal/bytealg.IndexString"], named := ["internal/bytealg.MaxLen"], apart := false }
def SurdRootsSaid : Prop := surdRootsRow.holds Try.pinned (OpenSpec.ofChange surdRootsSpec)

/-- ITS FALSE NEIGHBOUR: 'it returns false'. Refute it at one input. -/
def surdRootsWrong : ChangeSpec := { name := "surdRoots", fn := fun _ => fun
  | [d1, d2] => { results := [.lit (.bool false)], args := [d1, d2] }
  | _ => none }
def SurdRootsWrongFalsely : Prop := surdRootsRow.holds Try.pinned (OpenSpec.ofChange surdRootsWrong)

/-- 'pelliclelaw04.SurdNears': WHATEVER THE INPUT: true; the input reads as it did. -/
def surdNearsSpec : ChangeSpec := { name := "surdNears", fn := fun _ => fun
  | [d1, d2] => { results := [.lit (.bool true)], args := [d1, d2] }
  | _ => none }
def surdNearsRow : OpenClaim := { program := "ytmpcabpepnmfiaa", sum := "175ae7d4e183fcef6d6996d7100e8a32bf2bd5be39ea0a7f300047f067daf2bd", func := "pellicle/pelliclelaw04.SurdNears", spec := "surdNears", inPlace := ["internal/bytealg.IndexByteString", "internal/bytealg.IndexString"], named := ["internal/bytealg.MaxLen"], apart := false }
def SurdNearsSaid : Prop := surdNearsRow.holds Try.pinned (OpenSpec.ofChange surdNearsSpec)

/-- ITS FALSE NEIGHBOUR: 'it returns false'. Refute it at one input. -/
def surdNearsWrong : ChangeSpec := { name := "surdNears", fn := fun _ => fun
  | [d1, d2] => { results := [.lit (.bool false)], args := [d1, d2] }
  | _ => none }
def SurdNearsWrongFalsely : Prop := surdNearsRow.holds Try.pinned (OpenSpec.ofChange surdNearsWrong)

/- THE SECOND FORM. 'bulk': how many values and letters a reading holds, each counted each time it is reached (what is shared counts as often as it is met; a slice's spare places count too). A statement '..UptoSaid' is the law's where the arguments, and the package variables that the reading takes, are together of bulk at most 1048576: NARROWER than '..Said'. Prove '..Said' where nothing that the law and all that it calls make is longer than what came in: it says more and counts as full. Else prove '..UptoSaid'. A law counts once. -/
mutual
def uptoBulk {H : Type} : DataW H → Nat
  | .lit (.string bytes) => bytes.length + 1
  | .lit _ => 1
  | .nil => 1
  | .ptr d => uptoBulk d + 1
  | .slice elems spare => uptoBulkAll elems + uptoBulkAll spare + 1
  | .agg parts => uptoBulkAll parts + 1
  | .iface _ d => uptoBulk d + 1
  | .map entries => uptoBulkEntries entries + 1
  | .held _ => 1
def uptoBulkAll {H : Type} : List (DataW H) → Nat
  | [] => 0
  | d :: r => uptoBulk d + uptoBulkAll r
def uptoBulkEntries {H : Type} : List (Lit × DataW H) → Nat
  | [] => 0
  | x :: r => uptoBulkEntry x + uptoBulkEntries r
def uptoBulkEntry {H : Type} : Lit × DataW H → Nat
  | (.string bytes, d) => bytes.length + uptoBulk d + 1
  | (_, d) => uptoBulk d + 1
 end
def uptoSmall : (H : Type) → List (DataW H) → Bool := fun _ ds => decide (uptoBulkAll ds ≤ 1048576)
def OpenSpec.upto (s : _root_.Go.ChangeSpec) : _root_.Go.OpenSpec := { _root_.Go.OpenSpec.ofChange s with cond := some uptoSmall }

/-- 'pelliclelaw02.ZedSums', WHERE WHAT IT READS IS OF BULK AT MOST 1048576: true; the input reads as it did. -/
def zedSumsUptoRow : OpenClaim := { program := "ytmpcabpepnmfiaa", sum := "175ae7d4e183fcef6d6996d7100e8a32bf2bd5be39ea0a7f300047f067daf2bd", func := "pellicle/pelliclelaw02.ZedSums", spec := "zedSums", apart := false, narrowed := true }
def ZedSumsUptoSaid : Prop := zedSumsUptoRow.holds Try.pinned (OpenSpec.upto zedSumsSpec)

/-- 'pelliclelaw05.RealDecodes', WHERE WHAT IT READS IS OF BULK AT MOST 1048576: true; the input reads as it did. -/
def realDecodesUptoRow : OpenClaim := { program := "ytmpcabpepnmfiaa", sum := "175ae7d4e183fcef6d6996d7100e8a32bf2bd5be39ea0a7f300047f067daf2bd", func := "pellicle/pelliclelaw05.RealDecodes", spec := "realDecodes", apart := false, narrowed := true }
def RealDecodesUptoSaid : Prop := realDecodesUptoRow.holds Try.pinned (OpenSpec.upto realDecodesSpec)

/-- 'pelliclelaw05.RealOrder', WHERE WHAT IT READS IS OF BULK AT MOST 1048576: true; the input reads as it did. -/
def realOrderUptoRow : OpenClaim := { program := "ytmpcabpepnmfiaa", sum := "175ae7d4e183fcef6d6996d7100e8a32bf2bd5be39ea0a7f300047f067daf2bd", func := "pellicle/pelliclelaw05.RealOrder", spec := "realOrder", apart := false, narrowed := true }
def RealOrderUptoSaid : Prop := realOrderUptoRow.holds Try.pinned (OpenSpec.upto realOrderSpec)

/-- 'pelliclelaw05.RealBack', WHERE WHAT IT READS IS OF BULK AT MOST 1048576: true; the input reads as it did. -/
def realBackUptoRow : OpenClaim := { program := "ytmpcabpepnmfiaa", sum := "175ae7d4e183fcef6d6996d7100e8a32bf2bd5be39ea0a7f300047f067daf2bd", func := "pellicle/pelliclelaw05.RealBack", spec := "realBack", apart := false, narrowed := true }
def RealBackUptoSaid : Prop := realBackUptoRow.holds Try.pinned (OpenSpec.upto realBackSpec)

/-- 'pelliclelaw05.RealSame', WHERE WHAT IT READS IS OF BULK AT MOST 1048576: true; the input reads as it did. -/
def realSameUptoRow : OpenClaim := { program := "ytmpcabpepnmfiaa", sum := "175ae7d4e183fcef6d6996d7100e8a32bf2bd5be39ea0a7f300047f067daf2bd", func := "pellicle/pelliclelaw05.RealSame", spec := "realSame", apart := false, narrowed := true }
def RealSameUptoSaid : Prop := realSameUptoRow.holds Try.pinned (OpenSpec.upto realSameSpec)

/-- 'pelliclelaw03.FracRounds', WHERE WHAT IT READS IS OF BULK AT MOST 1048576: true; the input reads as it did. -/
def fracRoundsUptoRow : OpenClaim := { program := "ytmpcabpepnmfiaa", sum := "175ae7d4e183fcef6d6996d7100e8a32bf2bd5be39ea0a7f300047f067daf2bd", func := "pellicle/pelliclelaw03.FracRounds", spec := "fracRounds", inPlace := ["internal/bytealg.IndexByteString", "internal/bytealg.IndexString"], named := ["internal/bytealg.MaxLen"], apart := false, narrowed := true }
def FracRoundsUptoSaid : Prop := fracRoundsUptoRow.holds Try.pinned (OpenSpec.upto fracRoundsSpec)

/-- 'pelliclelaw03.FracReads', WHERE WHAT IT READS IS OF BULK AT MOST 1048576: true; the input reads as it did. -/
def fracReadsUptoRow : OpenClaim := { program := "ytmpcabpepnmfiaa", sum := "175ae7d4e183fcef6d6996d7100e8a32bf2bd5be39ea0a7f300047f067daf2bd", func := "pellicle/pelliclelaw03.FracReads", spec := "fracReads", inPlace := ["internal/bytealg.IndexByteString", "internal/bytealg.IndexString"], named := ["internal/bytealg.MaxLen"], apart := false, narrowed := true }
def FracReadsUptoSaid : Prop := fracReadsUptoRow.holds Try.pinned (OpenSpec.upto fracReadsSpec)

/-- 'pelliclelaw03.FracMakes', WHERE WHAT IT READS IS OF BULK AT MOST 1048576: true; the input reads as it did. -/
def fracMakesUptoRow : OpenClaim := { program := "ytmpcabpepnmfiaa", sum := "175ae7d4e183fcef6d6996d7100e8a32bf2bd5be39ea0a7f300047f067daf2bd", func := "pellicle/pelliclelaw03.FracMakes", spec := "fracMakes", inPlace := ["internal/bytealg.IndexByteString", "internal/bytealg.IndexString"], named := ["internal/bytealg.MaxLen"], apart := false, narrowed := true }
def FracMakesUptoSaid : Prop := fracMakesUptoRow.holds Try.pinned (OpenSpec.upto fracMakesSpec)

/-- 'pelliclelaw03.FracBack', WHERE WHAT IT READS IS OF BULK AT MOST 1048576: true; the input reads as it did. -/
def fracBackUptoRow : OpenClaim := { program := "ytmpcabpepnmfiaa", sum := "175ae7d4e183fcef6d6996d7100e8a32bf2bd5be39ea0a7f300047f067daf2bd", func := "pellicle/pelliclelaw03.FracBack", spec := "fracBack", inPlace := ["internal/bytealg.IndexByteString", "internal/bytealg.IndexString"], named := ["internal/bytealg.MaxLen"], apart := false, narrowed := true }
def FracBackUptoSaid : Prop := fracBackUptoRow.holds Try.pinned (OpenSpec.upto fracBackSpec)

/-- 'pelliclelaw03.FracReckons', WHERE WHAT IT READS IS OF BULK AT MOST 1048576: true; the input reads as it did. -/
def fracReckonsUptoRow : OpenClaim := { program := "ytmpcabpepnmfiaa", sum := "175ae7d4e183fcef6d6996d7100e8a32bf2bd5be39ea0a7f300047f067daf2bd", func := "pellicle/pelliclelaw03.FracReckons", spec := "fracReckons", inPlace := ["internal/bytealg.IndexByteString", "internal/bytealg.IndexString"], named := ["internal/bytealg.MaxLen"], apart := false, narrowed := true }
def FracReckonsUptoSaid : Prop := fracReckonsUptoRow.holds Try.pinned (OpenSpec.upto fracReckonsSpec)

/-- 'pelliclelaw03.FracField', WHERE WHAT IT READS IS OF BULK AT MOST 1048576: true; the input reads as it did. -/
def fracFieldUptoRow : OpenClaim := { program := "ytmpcabpepnmfiaa", sum := "175ae7d4e183fcef6d6996d7100e8a32bf2bd5be39ea0a7f300047f067daf2bd", func := "pellicle/pelliclelaw03.FracField", spec := "fracField", inPlace := ["internal/bytealg.IndexByteString", "internal/bytealg.IndexString"], named := ["internal/bytealg.MaxLen"], apart := false, narrowed := true }
def FracFieldUptoSaid : Prop := fracFieldUptoRow.holds Try.pinned (OpenSpec.upto fracFieldSpec)

/-- 'pelliclelaw03.FracEnds', WHERE WHAT IT READS IS OF BULK AT MOST 1048576: true; the input reads as it did. -/
def fracEndsUptoRow : OpenClaim := { program := "ytmpcabpepnmfiaa", sum := "175ae7d4e183fcef6d6996d7100e8a32bf2bd5be39ea0a7f300047f067daf2bd", func := "pellicle/pelliclelaw03.FracEnds", spec := "fracEnds", inPlace := ["internal/bytealg.IndexByteString", "internal/bytealg.IndexString"], named := ["internal/bytealg.MaxLen"], apart := false, narrowed := true }
def FracEndsUptoSaid : Prop := fracEndsUptoRow.holds Try.pinned (OpenSpec.upto fracEndsSpec)

/-- 'pelliclelaw03.FracStays', WHERE WHAT IT READS IS OF BULK AT MOST 1048576: true; the input reads as it did. -/
def fracStaysUptoRow : OpenClaim := { program := "ytmpcabpepnmfiaa", sum := "175ae7d4e183fcef6d6996d7100e8a32bf2bd5be39ea0a7f300047f067daf2bd", func := "pellicle/pelliclelaw03.FracStays", spec := "fracStays", inPlace := ["internal/bytealg.IndexByteString", "internal/bytealg.IndexString"], named := ["internal/bytealg.MaxLen"], apart := false, narrowed := true }
def FracStaysUptoSaid : Prop := fracStaysUptoRow.holds Try.pinned (OpenSpec.upto fracStaysSpec)

/-- 'pelliclelaw05.RealEncodes', WHERE WHAT IT READS IS OF BULK AT MOST 1048576: true; the input reads as it did. -/
def realEncodesUptoRow : OpenClaim := { program := "ytmpcabpepnmfiaa", sum := "175ae7d4e183fcef6d6996d7100e8a32bf2bd5be39ea0a7f300047f067daf2bd", func := "pellicle/pelliclelaw05.RealEncodes", spec := "realEncodes", inPlace := ["internal/bytealg.IndexByteString", "internal/bytealg.IndexString"], named := ["internal/bytealg.MaxLen"], apart := false, narrowed := true }
def RealEncodesUptoSaid : Prop := realEncodesUptoRow.holds Try.pinned (OpenSpec.upto realEncodesSpec)

/-- 'pelliclelaw04.SurdMakes', WHERE WHAT IT READS IS OF BULK AT MOST 1048576: true; the input reads as it did. -/
def surdMakesUptoRow : OpenClaim := { program := "ytmpcabpepnmfiaa", sum := "175ae7d4e183fcef6d6996d7100e8a32bf2bd5be39ea0a7f300047f067daf2bd", func := "pellicle/pelliclelaw04.SurdMakes", spec := "surdMakes", inPlace := ["internal/bytealg.IndexByteString", "internal/bytealg.IndexString"], named := ["internal/bytealg.MaxLen"], apart := false, narrowed := true }
def SurdMakesUptoSaid : Prop := surdMakesUptoRow.holds Try.pinned (OpenSpec.upto surdMakesSpec)

/-- 'pelliclelaw04.SurdRing', WHERE WHAT IT READS IS OF BULK AT MOST 1048576: true; the input reads as it did. -/
def surdRingUptoRow : OpenClaim := { program := "ytmpcabpepnmfiaa", sum := "175ae7d4e183fcef6d6996d7100e8a32bf2bd5be39ea0a7f300047f067daf2bd", func := "pellicle/pelliclelaw04.SurdRing", spec := "surdRing", inPlace := ["internal/bytealg.IndexByteString", "internal/bytealg.IndexString"], named := ["internal/bytealg.MaxLen"], apart := false, narrowed := true }
def SurdRingUptoSaid : Prop := surdRingUptoRow.holds Try.pinned (OpenSpec.upto surdRingSpec)

/-- 'pelliclelaw04.SurdOrders', WHERE WHAT IT READS IS OF BULK AT MOST 1048576: true; the input reads as it did. -/
def surdOrdersUptoRow : OpenClaim := { program := "ytmpcabpepnmfiaa", sum := "175ae7d4e183fcef6d6996d7100e8a32bf2bd5be39ea0a7f300047f067daf2bd", func := "pellicle/pelliclelaw04.SurdOrders", spec := "surdOrders", inPlace := ["internal/bytealg.IndexByteString", "internal/bytealg.IndexString"], named := ["internal/bytealg.MaxLen"], apart := false, narrowed := true }
def SurdOrdersUptoSaid : Prop := surdOrdersUptoRow.holds Try.pinned (OpenSpec.upto surdOrdersSpec)

/-- 'pelliclelaw04.SurdRoots', WHERE WHAT IT READS IS OF BULK AT MOST 1048576: true; the input reads as it did. -/
def surdRootsUptoRow : OpenClaim := { program := "ytmpcabpepnmfiaa", sum := "175ae7d4e183fcef6d6996d7100e8a32bf2bd5be39ea0a7f300047f067daf2bd", func := "pellicle/pelliclelaw04.SurdRoots", spec := "surdRoots", inPlace := ["internal/bytealg.IndexByteString", "internal/bytealg.IndexString"], named := ["internal/bytealg.MaxLen"], apart := false, narrowed := true }
def SurdRootsUptoSaid : Prop := surdRootsUptoRow.holds Try.pinned (OpenSpec.upto surdRootsSpec)

/-- 'pelliclelaw04.SurdNears', WHERE WHAT IT READS IS OF BULK AT MOST 1048576: true; the input reads as it did. -/
def surdNearsUptoRow : OpenClaim := { program := "ytmpcabpepnmfiaa", sum := "175ae7d4e183fcef6d6996d7100e8a32bf2bd5be39ea0a7f300047f067daf2bd", func := "pellicle/pelliclelaw04.SurdNears", spec := "surdNears", inPlace := ["internal/bytealg.IndexByteString", "internal/bytealg.IndexString"], named := ["internal/bytealg.MaxLen"], apart := false, narrowed := true }
def SurdNearsUptoSaid : Prop := surdNearsUptoRow.holds Try.pinned (OpenSpec.upto surdNearsSpec)

end Rows
end Go.Proofs.Ytmpcabpepnmfiaa
