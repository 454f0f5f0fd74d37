/-
  No cell of these rows narrows 'for every input' (looked for: loops, veiled, ifaces, maps, wideKeys, modest, calm, conditions, laid).
  DERIVED. THE GIVEN ROWS OF THIS SEAT. 5 by the template 'for every input the law returns true; each argument reads behind the call as it read before'; 0 by the template 'total and deterministic' (their statements: YthjhcddkdplegaaTotals.lean).
  GIVEN WITH THE SEED: the statements are not yours to turn. If you find one false, say at which input.
  Laid BY PROGRAM, IN A SANDBOX (cutbox-rows.mjs): the forced cells as the released guide's own fill.sh prints them over the translation 69761c54865dcd19… (all of the seat's roots in one cut). By AI agents, Wed Nov 11 2026. No macro, syntax, notation, axiom, sorry.
-/
import Derived.Test.YthjhcddkdplegaaChecked
import GoSem.Claim
import GoSem.ClaimJoined
import GoSem.ClaimMapViews
import Derived.JoinedTies
import Derived.KernelRfl
namespace Go.Proofs.Ythjhcddkdplegaa
/- THE CELL 'sum', in the pinned program and in every row, IS THE sha256 OF THE DUMP (.gsa) THAT YthjhcddkdplegaaProg.lean LOADS. Nothing in Lean hashes anything: it is a label: what it is worth is what the hold of that sum in a sandbox is worth. -/
noncomputable def Try.pinned : Pinned := { name := "ythjhcddkdplegaa", sum := "69761c54865dcd19dbee2d7abfbaa637d485bf2d8b42756999e5e71a02f2d76c", checked := Try.checked }
namespace Rows
def none {H : Type} : Left H := { results := [], args := [] }

/-- 'pelliclelaw05.RealDecodes': WHATEVER THE INPUT: true; the input reads as it did. -/
def realDecodesSpec : ChangeSpec := { name := "realDecodes", fn := fun _ => fun
  | [d] => { results := [.lit (.bool true)], args := [d] }
  | _ => none }
def realDecodesRow : OpenClaim := { program := "ythjhcddkdplegaa", sum := "69761c54865dcd19dbee2d7abfbaa637d485bf2d8b42756999e5e71a02f2d76c", func := "pellicle/pelliclelaw05.RealDecodes", spec := "realDecodes", apart := false }
def RealDecodesSaid : Prop := realDecodesRow.holds Try.pinned (OpenSpec.ofChange realDecodesSpec)

/-- ITS FALSE NEIGHBOUR: 'it returns false'. Refute it at one input. -/
def realDecodesWrong : ChangeSpec := { name := "realDecodes", fn := fun _ => fun
  | [d] => { results := [.lit (.bool false)], args := [d] }
  | _ => none }
def RealDecodesWrongFalsely : Prop := realDecodesRow.holds Try.pinned (OpenSpec.ofChange realDecodesWrong)

/-- 'pelliclelaw05.RealOrder': WHATEVER THE INPUT: true; the input reads as it did. -/
def realOrderSpec : ChangeSpec := { name := "realOrder", fn := fun _ => fun
  | [d1, d2] => { results := [.lit (.bool true)], args := [d1, d2] }
  | _ => none }
def realOrderRow : OpenClaim := { program := "ythjhcddkdplegaa", sum := "69761c54865dcd19dbee2d7abfbaa637d485bf2d8b42756999e5e71a02f2d76c", func := "pellicle/pelliclelaw05.RealOrder", spec := "realOrder", apart := false }
def RealOrderSaid : Prop := realOrderRow.holds Try.pinned (OpenSpec.ofChange realOrderSpec)

/-- ITS FALSE NEIGHBOUR: 'it returns false'. Refute it at one input. -/
def realOrderWrong : ChangeSpec := { name := "realOrder", fn := fun _ => fun
  | [d1, d2] => { results := [.lit (.bool false)], args := [d1, d2] }
  | _ => none }
def RealOrderWrongFalsely : Prop := realOrderRow.holds Try.pinned (OpenSpec.ofChange realOrderWrong)

/-- 'pelliclelaw05.RealBack': WHATEVER THE INPUT: true; the input reads as it did. -/
def realBackSpec : ChangeSpec := { name := "realBack", fn := fun _ => fun
  | [d] => { results := [.lit (.bool true)], args := [d] }
  | _ => none }
def realBackRow : OpenClaim := { program := "ythjhcddkdplegaa", sum := "69761c54865dcd19dbee2d7abfbaa637d485bf2d8b42756999e5e71a02f2d76c", func := "pellicle/pelliclelaw05.RealBack", spec := "realBack", apart := false }
def RealBackSaid : Prop := realBackRow.holds Try.pinned (OpenSpec.ofChange realBackSpec)

/-- ITS FALSE NEIGHBOUR: 'it returns false'. Refute it at one input. -/
def realBackWrong : ChangeSpec := { name := "realBack", fn := fun _ => fun
  | [d] => { results := [.lit (.bool false)], args := [d] }
  | _ => none }
def RealBackWrongFalsely : Prop := realBackRow.holds Try.pinned (OpenSpec.ofChange realBackWrong)

/-- 'pelliclelaw05.RealSame': WHATEVER THE INPUT: true; the input reads as it did. -/
def realSameSpec : ChangeSpec := { name := "realSame", fn := fun _ => fun
  | [d1, d2] => { results := [.lit (.bool true)], args := [d1, d2] }
  | _ => none }
def realSameRow : OpenClaim := { program := "ythjhcddkdplegaa", sum := "69761c54865dcd19dbee2d7abfbaa637d485bf2d8b42756999e5e71a02f2d76c", func := "pellicle/pelliclelaw05.RealSame", spec := "realSame", apart := false }
def RealSameSaid : Prop := realSameRow.holds Try.pinned (OpenSpec.ofChange realSameSpec)

/-- ITS FALSE NEIGHBOUR: 'it returns false'. Refute it at one input. -/
def realSameWrong : ChangeSpec := { name := "realSame", fn := fun _ => fun
  | [d1, d2] => { results := [.lit (.bool false)], args := [d1, d2] }
  | _ => none }
def RealSameWrongFalsely : Prop := realSameRow.holds Try.pinned (OpenSpec.ofChange realSameWrong)

/-- 'pelliclelaw05.RealEncodes': WHATEVER THE INPUT: true; the input reads as it did. -/
def realEncodesSpec : ChangeSpec := { name := "realEncodes", fn := fun _ => fun
  | [d] => { results := [.lit (.bool true)], args := [d] }
  | _ => none }
def realEncodesRow : OpenClaim := { program := "ythjhcddkdplegaa", sum := "69761c54865dcd19dbee2d7abfbaa637d485bf2d8b42756999e5e71a02f2d76c", func := "pellicle/pelliclelaw05.RealEncodes", spec := "realEncodes", inPlace := ["internal/bytealg.IndexByteString", "internal/bytealg.IndexString"], named := ["internal/bytealg.MaxLen"], apart := false }
def RealEncodesSaid : Prop := realEncodesRow.holds Try.pinned (OpenSpec.ofChange realEncodesSpec)

/-- ITS FALSE NEIGHBOUR: 'it returns false'. Refute it at one input. -/
def realEncodesWrong : ChangeSpec := { name := "realEncodes", fn := fun _ => fun
  | [d] => { results := [.lit (.bool false)], args := [d] }
  | _ => none }
def RealEncodesWrongFalsely : Prop := realEncodesRow.holds Try.pinned (OpenSpec.ofChange realEncodesWrong)

/- THE SECOND FORM. 'bulk': how many values and letters a reading holds, each counted each time it is reached (what is shared counts as often as it is met; a slice's spare places count too). A statement '..UptoSaid' is the law's where the arguments, and the package variables that the reading takes, are together of bulk at most 1048576: NARROWER than '..Said'. Prove '..Said' where nothing that the law and all that it calls make is longer than what came in: it says more and counts as full. Else prove '..UptoSaid'. A law counts once. -/
mutual
def uptoBulk {H : Type} : DataW H → Nat
  | .lit (.string bytes) => bytes.length + 1
  | .lit _ => 1
  | .nil => 1
  | .ptr d => uptoBulk d + 1
  | .slice elems spare => uptoBulkAll elems + uptoBulkAll spare + 1
  | .agg parts => uptoBulkAll parts + 1
  | .iface _ d => uptoBulk d + 1
  | .map entries => uptoBulkEntries entries + 1
  | .held _ => 1
def uptoBulkAll {H : Type} : List (DataW H) → Nat
  | [] => 0
  | d :: r => uptoBulk d + uptoBulkAll r
def uptoBulkEntries {H : Type} : List (Lit × DataW H) → Nat
  | [] => 0
  | x :: r => uptoBulkEntry x + uptoBulkEntries r
def uptoBulkEntry {H : Type} : Lit × DataW H → Nat
  | (.string bytes, d) => bytes.length + uptoBulk d + 1
  | (_, d) => uptoBulk d + 1
 end
def uptoSmall : (H : Type) → List (DataW H) → Bool := fun _ ds => decide (uptoBulkAll ds ≤ 1048576)
def OpenSpec.upto (s : _root_.Go.ChangeSpec) : _root_.Go.OpenSpec := { _root_.Go.OpenSpec.ofChange s with cond := some uptoSmall }

/-- 'pelliclelaw05.RealDecodes', WHERE WHAT IT READS IS OF BULK AT MOST 1048576: true; the input reads as it did. -/
def realDecodesUptoRow : OpenClaim := { program := "ythjhcddkdplegaa", sum := "69761c54865dcd19dbee2d7abfbaa637d485bf2d8b42756999e5e71a02f2d76c", func := "pellicle/pelliclelaw05.RealDecodes", spec := "realDecodes", apart := false, narrowed := true }
def RealDecodesUptoSaid : Prop := realDecodesUptoRow.holds Try.pinned (OpenSpec.upto realDecodesSpec)

/-- 'pelliclelaw05.RealOrder', WHERE WHAT IT READS IS OF BULK AT MOST 1048576: true; the input reads as it did. -/
def realOrderUptoRow : OpenClaim := { program := "ythjhcddkdplegaa", sum := "69761c54865dcd19dbee2d7abfbaa637d485bf2d8b42756999e5e71a02f2d76c", func := "pellicle/pelliclelaw05.RealOrder", spec := "realOrder", apart := false, narrowed := true }
def RealOrderUptoSaid : Prop := realOrderUptoRow.holds Try.pinned (OpenSpec.upto realOrderSpec)

/-- 'pelliclelaw05.RealBack', WHERE WHAT IT READS IS OF BULK AT MOST 1048576: true; the input reads as it did. -/
def realBackUptoRow : OpenClaim := { program := "ythjhcddkdplegaa", sum := "69761c54865dcd19dbee2d7abfbaa637d485bf2d8b42756999e5e71a02f2d76c", func := "pellicle/pelliclelaw05.RealBack", spec := "realBack", apart := false, narrowed := true }
def RealBackUptoSaid : Prop := realBackUptoRow.holds Try.pinned (OpenSpec.upto realBackSpec)

/-- 'pelliclelaw05.RealSame', WHERE WHAT IT READS IS OF BULK AT MOST 1048576: true; the input reads as it did. -/
def realSameUptoRow : OpenClaim := { program := "ythjhcddkdplegaa", sum := "69761c54865dcd19dbee2d7abfbaa637d485bf2d8b42756999e5e71a02f2d76c", func := "pellicle/pelliclelaw05.RealSame", spec := "realSame", apart := false, narrowed := true }
def RealSameUptoSaid : Prop := realSameUptoRow.holds Try.pinned (OpenSpec.upto realSameSpec)

/-- 'pelliclelaw05.RealEncodes', WHERE WHAT IT READS IS OF BULK AT MOST 1048576: true; the input reads as it did. -/
def realEncodesUptoRow : OpenClaim := { program := "ythjhcddkdplegaa", sum := "69761c54865dcd19dbee2d7abfbaa637d485bf2d8b42756999e5e71a02f2d76c", func := "pellicle/pelliclelaw05.RealEncodes", spec := "realEncodes", inPlace := ["internal/bytealg.IndexByteString", "internal/bytealg.IndexString"], named := ["internal/bytealg.MaxLen"], apart := false, narrowed := true }
def RealEncodesUptoSaid : Prop := realEncodesUptoRow.holds Try.pinned (OpenSpec.upto realEncodesSpec)

end Rows
end Go.Proofs.Ythjhcddkdplegaa
