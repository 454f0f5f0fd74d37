/-
  No cell of these rows narrows 'for every input' (looked for: loops, veiled, ifaces, maps, wideKeys, modest, calm, conditions, laid).
  DERIVED. THE GIVEN ROWS OF THIS SEAT. 6 by the template 'for every input the law returns true; each argument reads behind the call as it read before'; 0 by the template 'total and deterministic' (their statements: YtcldhekediegdaaTotals.lean).
  GIVEN WITH THE SEED: the statements are not yours to turn. If you find one false, say at which input.
  Laid BY PROGRAM, IN A SANDBOX (cutbox-rows.mjs): the forced cells as the released guide's own fill.sh prints them over the translation d6bce9c3c474501a… (all of the seat's roots in one cut). By AI agents, Wed Nov 11 2026. No macro, syntax, notation, axiom, sorry.
-/
import Derived.Test.YtcldhekediegdaaChecked
import GoSem.Claim
import GoSem.ClaimJoined
import GoSem.ClaimMapViews
import Derived.JoinedTies
import Derived.KernelRfl
namespace Go.Proofs.Ytcldhekediegdaa
/- THE CELL 'sum', in the pinned program and in every row, IS THE sha256 OF THE DUMP (.gsa) THAT YtcldhekediegdaaProg.lean LOADS. Nothing in Lean hashes anything: it is a label: what it is worth is what the hold of that sum in a sandbox is worth. -/
noncomputable def Try.pinned : Pinned := { name := "ytcldhekediegdaa", sum := "d6bce9c3c474501a05fea8aa37f64561c8ed83cbe4bcd0c02105a8de13cbb659", checked := Try.checked }
namespace Rows
def none {H : Type} : Left H := { results := [], args := [] }

/-- 'pelliclelaw08.OctantMakes': WHATEVER THE INPUT: true; the input reads as it did. -/
def octantMakesSpec : ChangeSpec := { name := "octantMakes", fn := fun _ => fun
  | [d1, d2, d3, d4, d5] => { results := [.lit (.bool true)], args := [d1, d2, d3, d4, d5] }
  | _ => none }
def octantMakesRow : OpenClaim := { program := "ytcldhekediegdaa", sum := "d6bce9c3c474501a05fea8aa37f64561c8ed83cbe4bcd0c02105a8de13cbb659", func := "pellicle/pelliclelaw08.OctantMakes", spec := "octantMakes", apart := false }
def OctantMakesSaid : Prop := octantMakesRow.holds Try.pinned (OpenSpec.ofChange octantMakesSpec)

/-- ITS FALSE NEIGHBOUR: 'it returns false'. Refute it at one input. -/
def octantMakesWrong : ChangeSpec := { name := "octantMakes", fn := fun _ => fun
  | [d1, d2, d3, d4, d5] => { results := [.lit (.bool false)], args := [d1, d2, d3, d4, d5] }
  | _ => none }
def OctantMakesWrongFalsely : Prop := octantMakesRow.holds Try.pinned (OpenSpec.ofChange octantMakesWrong)

/-- 'pelliclelaw04.SurdMakes': WHATEVER THE INPUT: true; the input reads as it did. -/
def surdMakesSpec : ChangeSpec := { name := "surdMakes", fn := fun _ => fun
  | [d1, d2, d3] => { results := [.lit (.bool true)], args := [d1, d2, d3] }
  | _ => none }
def surdMakesRow : OpenClaim := { program := "ytcldhekediegdaa", sum := "d6bce9c3c474501a05fea8aa37f64561c8ed83cbe4bcd0c02105a8de13cbb659", func := "pellicle/pelliclelaw04.SurdMakes", spec := "surdMakes", inPlace := ["internal/bytealg.IndexByteString", "internal/bytealg.IndexString"], named := ["internal/bytealg.MaxLen"], apart := false }
def SurdMakesSaid : Prop := surdMakesRow.holds Try.pinned (OpenSpec.ofChange surdMakesSpec)

/-- ITS FALSE NEIGHBOUR: 'it returns false'. Refute it at one input. -/
def surdMakesWrong : ChangeSpec := { name := "surdMakes", fn := fun _ => fun
  | [d1, d2, d3] => { results := [.lit (.bool false)], args := [d1, d2, d3] }
  | _ => none }
def SurdMakesWrongFalsely : Prop := surdMakesRow.holds Try.pinned (OpenSpec.ofChange surdMakesWrong)

/-- 'pelliclelaw04.SurdRing': WHATEVER THE INPUT: true; the input reads as it did. -/
def surdRingSpec : ChangeSpec := { name := "surdRing", fn := fun _ => fun
  | [d1, d2, d3] => { results := [.lit (.bool true)], args := [d1, d2, d3] }
  | _ => none }
def surdRingRow : OpenClaim := { program := "ytcldhekediegdaa", sum := "d6bce9c3c474501a05fea8aa37f64561c8ed83cbe4bcd0c02105a8de13cbb659", func := "pellicle/pelliclelaw04.SurdRing", spec := "surdRing", inPlace := ["internal/bytealg.IndexByteString", "internal/bytealg.IndexString"], named := ["internal/bytealg.MaxLen"], apart := false }
def SurdRingSaid : Prop := surdRingRow.holds Try.pinned (OpenSpec.ofChange surdRingSpec)

/-- ITS FALSE NEIGHBOUR: 'it returns false'. Refute it at one input. -/
def surdRingWrong : ChangeSpec := { name := "surdRing", fn := fun _ => fun
  | [d1, d2, d3] => { results := [.lit (.bool false)], args := [d1, d2, d3] }
  | _ => none }
def SurdRingWrongFalsely : Prop := surdRingRow.holds Try.pinned (OpenSpec.ofChange surdRingWrong)

/-- 'pelliclelaw04.SurdOrders': WHATEVER THE INPUT: true; the input reads as it did. -/
def surdOrdersSpec : ChangeSpec := { name := "surdOrders", fn := fun _ => fun
  | [d1, d2, d3] => { results := [.lit (.bool true)], args := [d1, d2, d3] }
  | _ => none }
def surdOrdersRow : OpenClaim := { program := "ytcldhekediegdaa", sum := "d6bce9c3c474501a05fea8aa37f64561c8ed83cbe4bcd0c02105a8de13cbb659", func := "pellicle/pelliclelaw04.SurdOrders", spec := "surdOrders", inPlace := ["internal/bytealg.IndexByteString", "internal/bytealg.IndexString"], named := ["internal/bytealg.MaxLen"], apart := false }
def SurdOrdersSaid : Prop := surdOrdersRow.holds Try.pinned (OpenSpec.ofChange surdOrdersSpec)

/-- ITS FALSE NEIGHBOUR: 'it returns false'. Refute it at one input. -/
def surdOrdersWrong : ChangeSpec := { name := "surdOrders", fn := fun _ => fun
  | [d1, d2, d3] => { results := [.lit (.bool false)], args := [d1, d2, d3] }
  | _ => none }
def SurdOrdersWrongFalsely : Prop := surdOrdersRow.holds Try.pinned (OpenSpec.ofChange surdOrdersWrong)

/-- 'pelliclelaw04.SurdRoots': WHATEVER THE INPUT: true; the input reads as it did. -/
def surdRootsSpec : ChangeSpec := { name := "surdRoots", fn := fun _ => fun
  | [d1, d2] => { results := [.lit (.bool true)], args := [d1, d2] }
  | _ => none }
def surdRootsRow : OpenClaim := { program := "ytcldhekediegdaa", sum := "d6bce9c3c474501a05fea8aa37f64561c8ed83cbe4bcd0c02105a8de13cbb659", func := "pellicle/pelliclelaw04.SurdRoots", spec := "surdRoots", inPlace := ["internal/bytealg.IndexByteString", "internal/bytealg.IndexString"], named := ["internal/bytealg.MaxLen"], apart := false }
def SurdRootsSaid : Prop := surdRootsRow.holds Try.pinned (OpenSpec.ofChange surdRootsSpec)

/-- ITS FALSE NEIGHBOUR: 'it returns false'. Refute it at one input. -/
def surdRootsWrong : ChangeSpec := { name := "surdRoots", fn := fun _ => fun
  | [d1, d2] => { results := [.lit (.bool false)], args := [d1, d2] }
  | _ => none }
def SurdRootsWrongFalsely : Prop := surdRootsRow.holds Try.pinned (OpenSpec.ofChange surdRootsWrong)

/-- 'pelliclelaw04.SurdNears': WHATEVER THE INPUT: true; the input reads as it did. -/
def surdNearsSpec : ChangeSpec := { name := "surdNears", fn := fun _ => fun
  | [d1, d2] => { results := [.lit (.bool true)], args := [d1, d2] }
  | _ => none }
def surdNearsRow : OpenClaim := { program := "ytcldhekediegdaa", sum := "d6bce9c3c474501a05fea8aa37f64561c8ed83cbe4bcd0c02105a8de13cbb659", func := "pellicle/pelliclelaw04.SurdNears", spec := "surdNears", inPlace := ["internal/bytealg.IndexByteString", "internal/bytealg.IndexString"], named := ["internal/bytealg.MaxLen"], apart := false }
def SurdNearsSaid : Prop := surdNearsRow.holds Try.pinned (OpenSpec.ofChange surdNearsSpec)

/-- ITS FALSE NEIGHBOUR: 'it returns false'. Refute it at one input. -/
def surdNearsWrong : ChangeSpec := { name := "surdNears", fn := fun _ => fun
  | [d1, d2] => { results := [.lit (.bool false)], args := [d1, d2] }
  | _ => none }
def SurdNearsWrongFalsely : Prop := surdNearsRow.holds Try.pinned (OpenSpec.ofChange surdNearsWrong)

/- THE SECOND FORM. 'bulk': how many values and letters a reading holds, each counted each time it is reached (what is shared counts as often as it is met; a slice's spare places count too). A statement '..UptoSaid' is the law's where the arguments, and the package variables that the reading takes, are together of bulk at most 1048576: NARROWER than '..Said'. Prove '..Said' where nothing that the law and all that it calls make is longer than what came in: it says more and counts as full. Else prove '..UptoSaid'. A law counts once. -/
mutual
def uptoBulk {H : Type} : DataW H → Nat
  | .lit (.string bytes) => bytes.length + 1
  | .lit _ => 1
  | .nil => 1
  | .ptr d => uptoBulk d + 1
  | .slice elems spare => uptoBulkAll elems + uptoBulkAll spare + 1
  | .agg parts => uptoBulkAll parts + 1
  | .iface _ d => uptoBulk d + 1
  | .map entries => uptoBulkEntries entries + 1
  | .held _ => 1
def uptoBulkAll {H : Type} : List (DataW H) → Nat
  | [] => 0
  | d :: r => uptoBulk d + uptoBulkAll r
def uptoBulkEntries {H : Type} : List (Lit × DataW H) → Nat
  | [] => 0
  | x :: r => uptoBulkEntry x + uptoBulkEntries r
def uptoBulkEntry {H : Type} : Lit × DataW H → Nat
  | (.string bytes, d) => bytes.length + uptoBulk d + 1
  | (_, d) => uptoBulk d + 1
 end
def uptoSmall : (H : Type) → List (DataW H) → Bool := fun _ ds => decide (uptoBulkAll ds ≤ 1048576)
def OpenSpec.upto (s : _root_.Go.ChangeSpec) : _root_.Go.OpenSpec := { _root_.Go.OpenSpec.ofChange s with cond := some uptoSmall }

/-- 'pelliclelaw08.OctantMakes', WHERE WHAT IT READS IS OF BULK AT MOST 1048576: true; the input reads as it did. -/
def octantMakesUptoRow : OpenClaim := { program := "ytcldhekediegdaa", sum := "d6bce9c3c474501a05fea8aa37f64561c8ed83cbe4bcd0c02105a8de13cbb659", func := "pellicle/pelliclelaw08.OctantMakes", spec := "octantMakes", apart := false, narrowed := true }
def OctantMakesUptoSaid : Prop := octantMakesUptoRow.holds Try.pinned (OpenSpec.upto octantMakesSpec)

/-- 'pelliclelaw04.SurdMakes', WHERE WHAT IT READS IS OF BULK AT MOST 1048576: true; the input reads as it did. -/
def surdMakesUptoRow : OpenClaim := { program := "ytcldhekediegdaa", sum := "d6bce9c3c474501a05fea8aa37f64561c8ed83cbe4bcd0c02105a8de13cbb659", func := "pellicle/pelliclelaw04.SurdMakes", spec := "surdMakes", inPlace := ["internal/bytealg.IndexByteString", "internal/bytealg.IndexString"], named := ["internal/bytealg.MaxLen"], apart := false, narrowed := true }
def SurdMakesUptoSaid : Prop := surdMakesUptoRow.holds Try.pinned (OpenSpec.upto surdMakesSpec)

/-- 'pelliclelaw04.SurdRing', WHERE WHAT IT READS IS OF BULK AT MOST 1048576: true; the input reads as it did. -/
def surdRingUptoRow : OpenClaim := { program := "ytcldhekediegdaa", sum := "d6bce9c3c474501a05fea8aa37f64561c8ed83cbe4bcd0c02105a8de13cbb659", func := "pellicle/pelliclelaw04.SurdRing", spec := "surdRing", inPlace := ["internal/bytealg.IndexByteString", "internal/bytealg.IndexString"], named := ["internal/bytealg.MaxLen"], apart := false, narrowed := true }
def SurdRingUptoSaid : Prop := surdRingUptoRow.holds Try.pinned (OpenSpec.upto surdRingSpec)

/-- 'pelliclelaw04.SurdOrders', WHERE WHAT IT READS IS OF BULK AT MOST 1048576: true; the input reads as it did. -/
def surdOrdersUptoRow : OpenClaim := { program := "ytcldhekediegdaa", sum := "d6bce9c3c474501a05fea8aa37f64561c8ed83cbe4bcd0c02105a8de13cbb659", func := "pellicle/pelliclelaw04.SurdOrders", spec := "surdOrders", inPlace := ["internal/bytealg.IndexByteString", "internal/bytealg.IndexString"], named := ["internal/bytealg.MaxLen"], apart := false, narrowed := true }
def SurdOrdersUptoSaid : Prop := surdOrdersUptoRow.holds Try.pinned (OpenSpec.upto surdOrdersSpec)

/-- 'pelliclelaw04.SurdRoots', WHERE WHAT IT READS IS OF BULK AT MOST 1048576: true; the input reads as it did. -/
def surdRootsUptoRow : OpenClaim := { program := "ytcldhekediegdaa", sum := "d6bce9c3c474501a05fea8aa37f64561c8ed83cbe4bcd0c02105a8de13cbb659", func := "pellicle/pelliclelaw04.SurdRoots", spec := "surdRoots", inPlace := ["internal/bytealg.IndexByteString", "internal/bytealg.IndexString"], named := ["internal/bytealg.MaxLen"], apart := false, narrowed := true }
def SurdRootsUptoSaid : Prop := surdRootsUptoRow.holds Try.pinned (OpenSpec.upto surdRootsSpec)

/-- 'pelliclelaw04.SurdNears', WHERE WHAT IT READS IS OF BULK AT MOST 1048576: true; the input reads as it did. -/
def surdNearsUptoRow : OpenClaim := { program := "ytcldhekediegdaa", sum := "d6bce9c3c474501a05fea8aa37f64561c8ed83cbe4bcd0c02105a8de13cbb659", func := "pellicle/pelliclelaw04.SurdNears", spec := "surdNears", inPlace := ["internal/bytealg.IndexByteString", "internal/bytealg.IndexString"], named := ["internal/bytealg.MaxLen"], apart := false, narrowed := true }
def SurdNearsUptoSaid : Prop := surdNearsUptoRow.holds Try.pinned (OpenSpec.upto surdNearsSpec)

end Rows
end Go.Proofs.Ytcldhekediegdaa
