/-
  No cell of these rows narrows 'for every input' (looked for: loops, veiled, ifaces, maps, wideKeys, modest, calm, conditions, laid).
  DERIVED. THE GIVEN ROWS OF THIS SEAT. 8 by the template 'for every input the law returns true; each argument reads behind the call as it read before'; 0 by the template 'total and deterministic' (their statements: YtabpaiboodllbaaGreatTotals.lean).
  GIVEN WITH THE SEED: the statements are not yours to turn. If you find one false, say at which input.
  Laid BY PROGRAM, IN A SANDBOX (cutbox-rows.mjs): the forced cells as the released guide's own fill.sh prints them over the translation 6a8bf26301f07160… (all of the seat's roots in one cut). By AI agents, Wed Nov 11 2026. No macro, syntax, notation, axiom, sorry.
-/
import Derived.Test.YtabpaiboodllbaaGreatChecked
import GoSem.Claim
import GoSem.ClaimJoined
import GoSem.ClaimMapViews
import Derived.JoinedTies
import Derived.KernelRfl
namespace Go.Proofs.YtabpaiboodllbaaGreat
/- THE CELL 'sum', in the pinned program and in every row, IS THE sha256 OF THE DUMP (.gsa) THAT YtabpaiboodllbaaGreatProg.lean LOADS. Nothing in Lean hashes anything: it is a label: what it is worth is what the hold of that sum in a sandbox is worth. -/
noncomputable def Tryz.pinned : Pinned := { name := "ytabpaiboodllbaagreat", sum := "6a8bf26301f07160059851e46523f98b54d891d99bc189b808007293bb102a21", checked := Tryz.checked }
namespace Rows
def none {H : Type} : Left H := { results := [], args := [] }

/-- 'pelliclelaw04.SurdRounds': WHATEVER THE INPUT: true; the input reads as it did. -/
def surdRoundsSpec : ChangeSpec := { name := "surdRounds", fn := fun _ => fun
  | [d] => { results := [.lit (.bool true)], args := [d] }
  | _ => none }
def surdRoundsRow : OpenClaim := { program := "ytabpaiboodllbaagreat", sum := "6a8bf26301f07160059851e46523f98b54d891d99bc189b808007293bb102a21", func := "pellicle/pelliclelaw04.SurdRounds", spec := "surdRounds", inPlace := ["internal/bytealg.IndexByteString", "internal/bytealg.IndexString"], named := ["internal/bytealg.MaxLen"], apart := false }
def SurdRoundsSaid : Prop := surdRoundsRow.holds Tryz.pinned (OpenSpec.ofChange surdRoundsSpec)

/-- ITS FALSE NEIGHBOUR: 'it returns false'. Refute it at one input. -/
def surdRoundsWrong : ChangeSpec := { name := "surdRounds", fn := fun _ => fun
  | [d] => { results := [.lit (.bool false)], args := [d] }
  | _ => none }
def SurdRoundsWrongFalsely : Prop := surdRoundsRow.holds Tryz.pinned (OpenSpec.ofChange surdRoundsWrong)

/-- 'pelliclelaw04.SurdSigns': WHATEVER THE INPUT: true; the input reads as it did. -/
def surdSignsSpec : ChangeSpec := { name := "surdSigns", fn := fun _ => fun
  | [d1, d2] => { results := [.lit (.bool true)], args := [d1, d2] }
  | _ => none }
def surdSignsRow : OpenClaim := { program := "ytabpaiboodllbaagreat", sum := "6a8bf26301f07160059851e46523f98b54d891d99bc189b808007293bb102a21", func := "pellicle/pelliclelaw04.SurdSigns", spec := "surdSigns", inPlace := ["internal/bytealg.IndexByteString", "internal/bytealg.IndexString"], named := ["internal/bytealg.MaxLen"], apart := false }
def SurdSignsSaid : Prop := surdSignsRow.holds Tryz.pinned (OpenSpec.ofChange surdSignsSpec)

/-- ITS FALSE NEIGHBOUR: 'it returns false'. Refute it at one input. -/
def surdSignsWrong : ChangeSpec := { name := "surdSigns", fn := fun _ => fun
  | [d1, d2] => { results := [.lit (.bool false)], args := [d1, d2] }
  | _ => none }
def SurdSignsWrongFalsely : Prop := surdSignsRow.holds Tryz.pinned (OpenSpec.ofChange surdSignsWrong)

/-- 'pelliclelaw08.OctantGrids': WHATEVER THE INPUT: true; the input reads as it did. -/
def octantGridsSpec : ChangeSpec := { name := "octantGrids", fn := fun _ => fun
  | [d1, d2, d3] => { results := [.lit (.bool true)], args := [d1, d2, d3] }
  | _ => none }
def octantGridsRow : OpenClaim := { program := "ytabpaiboodllbaagreat", sum := "6a8bf26301f07160059851e46523f98b54d891d99bc189b808007293bb102a21", func := "pellicle/pelliclelaw08.OctantGrids", spec := "octantGrids", inPlace := ["internal/bytealg.IndexByteString", "internal/bytealg.IndexString"], named := ["internal/bytealg.MaxLen"], apart := false }
def OctantGridsSaid : Prop := octantGridsRow.holds Tryz.pinned (OpenSpec.ofChange octantGridsSpec)

/-- ITS FALSE NEIGHBOUR: 'it returns false'. Refute it at one input. -/
def octantGridsWrong : ChangeSpec := { name := "octantGrids", fn := fun _ => fun
  | [d1, d2, d3] => { results := [.lit (.bool false)], args := [d1, d2, d3] }
  | _ => none }
def OctantGridsWrongFalsely : Prop := octantGridsRow.holds Tryz.pinned (OpenSpec.ofChange octantGridsWrong)

/-- 'pelliclelaw08.OctantLengths': WHATEVER THE INPUT: true; the input reads as it did. -/
def octantLengthsSpec : ChangeSpec := { name := "octantLengths", fn := fun _ => fun
  | [d1, d2, d3] => { results := [.lit (.bool true)], args := [d1, d2, d3] }
  | _ => none }
def octantLengthsRow : OpenClaim := { program := "ytabpaiboodllbaagreat", sum := "6a8bf26301f07160059851e46523f98b54d891d99bc189b808007293bb102a21", func := "pellicle/pelliclelaw08.OctantLengths", spec := "octantLengths", inPlace := ["internal/bytealg.IndexByteString", "internal/bytealg.IndexString"], unfollowed := true, recurses := true, named := ["internal/bytealg.MaxLen"], apart := false }
def OctantLengthsSaid : Prop := octantLengthsRow.holds Tryz.pinned (OpenSpec.ofChange octantLengthsSpec)

/-- ITS FALSE NEIGHBOUR: 'it returns false'. Refute it at one input. -/
def octantLengthsWrong : ChangeSpec := { name := "octantLengths", fn := fun _ => fun
  | [d1, d2, d3] => { results := [.lit (.bool false)], args := [d1, d2, d3] }
  | _ => none }
def OctantLengthsWrongFalsely : Prop := octantLengthsRow.holds Tryz.pinned (OpenSpec.ofChange octantLengthsWrong)

/-- 'pelliclelaw08.OctantThen': WHATEVER THE INPUT: true; the input reads as it did. -/
def octantThenSpec : ChangeSpec := { name := "octantThen", fn := fun _ => fun
  | [d1, d2, d3] => { results := [.lit (.bool true)], args := [d1, d2, d3] }
  | _ => none }
def octantThenRow : OpenClaim := { program := "ytabpaiboodllbaagreat", sum := "6a8bf26301f07160059851e46523f98b54d891d99bc189b808007293bb102a21", func := "pellicle/pelliclelaw08.OctantThen", spec := "octantThen", inPlace := ["internal/bytealg.IndexByteString", "internal/bytealg.IndexString"], named := ["internal/bytealg.MaxLen"], apart := false }
def OctantThenSaid : Prop := octantThenRow.holds Tryz.pinned (OpenSpec.ofChange octantThenSpec)

/-- ITS FALSE NEIGHBOUR: 'it returns false'. Refute it at one input. -/
def octantThenWrong : ChangeSpec := { name := "octantThen", fn := fun _ => fun
  | [d1, d2, d3] => { results := [.lit (.bool false)], args := [d1, d2, d3] }
  | _ => none }
def OctantThenWrongFalsely : Prop := octantThenRow.holds Tryz.pinned (OpenSpec.ofChange octantThenWrong)

/-- 'pelliclelaw08.OctantGroups': WHATEVER THE INPUT: true; the input reads as it did. -/
def octantGroupsSpec : ChangeSpec := { name := "octantGroups", fn := fun _ => fun
  | [d1, d2, d3, d4, d5] => { results := [.lit (.bool true)], args := [d1, d2, d3, d4, d5] }
  | _ => none }
def octantGroupsRow : OpenClaim := { program := "ytabpaiboodllbaagreat", sum := "6a8bf26301f07160059851e46523f98b54d891d99bc189b808007293bb102a21", func := "pellicle/pelliclelaw08.OctantGroups", spec := "octantGroups", inPlace := ["internal/bytealg.IndexByteString", "internal/bytealg.IndexString"], named := ["internal/bytealg.MaxLen"], apart := false }
def OctantGroupsSaid : Prop := octantGroupsRow.holds Tryz.pinned (OpenSpec.ofChange octantGroupsSpec)

/-- ITS FALSE NEIGHBOUR: 'it returns false'. Refute it at one input. -/
def octantGroupsWrong : ChangeSpec := { name := "octantGroups", fn := fun _ => fun
  | [d1, d2, d3, d4, d5] => { results := [.lit (.bool false)], args := [d1, d2, d3, d4, d5] }
  | _ => none }
def OctantGroupsWrongFalsely : Prop := octantGroupsRow.holds Tryz.pinned (OpenSpec.ofChange octantGroupsWrong)

/-- 'pelliclelaw08.OctantFar': WHATEVER THE INPUT: true; the input reads as it did. -/
def octantFarSpec : ChangeSpec := { name := "octantFar", fn := fun _ => fun
  | [d1, d2, d3] => { results := [.lit (.bool true)], args := [d1, d2, d3] }
  | _ => none }
def octantFarRow : OpenClaim := { program := "ytabpaiboodllbaagreat", sum := "6a8bf26301f07160059851e46523f98b54d891d99bc189b808007293bb102a21", func := "pellicle/pelliclelaw08.OctantFar", spec := "octantFar", inPlace := ["internal/bytealg.IndexByteString", "internal/bytealg.IndexString"], unfollowed := true, recurses := true, named := ["internal/bytealg.MaxLen"], apart := false }
def OctantFarSaid : Prop := octantFarRow.holds Tryz.pinned (OpenSpec.ofChange octantFarSpec)

/-- ITS FALSE NEIGHBOUR: 'it returns false'. Refute it at one input. -/
def octantFarWrong : ChangeSpec := { name := "octantFar", fn := fun _ => fun
  | [d1, d2, d3] => { results := [.lit (.bool false)], args := [d1, d2, d3] }
  | _ => none }
def OctantFarWrongFalsely : Prop := octantFarRow.holds Tryz.pinned (OpenSpec.ofChange octantFarWrong)

/-- 'pelliclelaw08.OctantTurns': WHATEVER THE INPUT: true; the input reads as it did. -/
def octantTurnsSpec : ChangeSpec := { name := "octantTurns", fn := fun _ => fun
  | [d1, d2, d3] => { results := [.lit (.bool true)], args := [d1, d2, d3] }
  | _ => none }
def octantTurnsRow : OpenClaim := { program := "ytabpaiboodllbaagreat", sum := "6a8bf26301f07160059851e46523f98b54d891d99bc189b808007293bb102a21", func := "pellicle/pelliclelaw08.OctantTurns", spec := "octantTurns", inPlace := ["internal/bytealg.IndexByteString", "internal/bytealg.IndexString"], unfollowed := true, recurses := true, named := ["internal/bytealg.MaxLen"], apart := false }
def OctantTurnsSaid : Prop := octantTurnsRow.holds Tryz.pinned (OpenSpec.ofChange octantTurnsSpec)

/-- ITS FALSE NEIGHBOUR: 'it returns false'. Refute it at one input. -/
def octantTurnsWrong : ChangeSpec := { name := "octantTurns", fn := fun _ => fun
  | [d1, d2, d3] => { results := [.lit (.bool false)], args := [d1, d2, d3] }
  | _ => none }
def OctantTurnsWrongFalsely : Prop := octantTurnsRow.holds Tryz.pinned (OpenSpec.ofChange octantTurnsWrong)

/- THE SECOND FORM. 'bulk': how many values and letters a reading holds, each counted each time it is reached (what is shared counts as often as it is met; a slice's spare places count too). A statement '..UptoSaid' is the law's where the arguments, and the package variables that the reading takes, are together of bulk at most 1048576: NARROWER than '..Said'. Prove '..Said' where nothing that the law and all that it calls make is longer than what came in: it says more and counts as full. Else prove '..UptoSaid'. A law counts once. -/
mutual
def uptoBulk {H : Type} : DataW H → Nat
  | .lit (.string bytes) => bytes.length + 1
  | .lit _ => 1
  | .nil => 1
  | .ptr d => uptoBulk d + 1
  | .slice elems spare => uptoBulkAll elems + uptoBulkAll spare + 1
  | .agg parts => uptoBulkAll parts + 1
  | .iface _ d => uptoBulk d + 1
  | .map entries => uptoBulkEntries entries + 1
  | .held _ => 1
def uptoBulkAll {H : Type} : List (DataW H) → Nat
  | [] => 0
  | d :: r => uptoBulk d + uptoBulkAll r
def uptoBulkEntries {H : Type} : List (Lit × DataW H) → Nat
  | [] => 0
  | x :: r => uptoBulkEntry x + uptoBulkEntries r
def uptoBulkEntry {H : Type} : Lit × DataW H → Nat
  | (.string bytes, d) => bytes.length + uptoBulk d + 1
  | (_, d) => uptoBulk d + 1
 end
def uptoSmall : (H : Type) → List (DataW H) → Bool := fun _ ds => decide (uptoBulkAll ds ≤ 1048576)
def OpenSpec.upto (s : _root_.Go.ChangeSpec) : _root_.Go.OpenSpec := { _root_.Go.OpenSpec.ofChange s with cond := some uptoSmall }

/-- 'pelliclelaw04.SurdRounds', WHERE WHAT IT READS IS OF BULK AT MOST 1048576: true; the input reads as it did. -/
def surdRoundsUptoRow : OpenClaim := { program := "ytabpaiboodllbaagreat", sum := "6a8bf26301f07160059851e46523f98b54d891d99bc189b808007293bb102a21", func := "pellicle/pelliclelaw04.SurdRounds", spec := "surdRounds", inPlace := ["internal/bytealg.IndexByteString", "internal/bytealg.IndexString"], named := ["internal/bytealg.MaxLen"], apart := false, narrowed := true }
def SurdRoundsUptoSaid : Prop := surdRoundsUptoRow.holds Tryz.pinned (OpenSpec.upto surdRoundsSpec)

/-- 'pelliclelaw04.SurdSigns', WHERE WHAT IT READS IS OF BULK AT MOST 1048576: true; the input reads as it did. -/
def surdSignsUptoRow : OpenClaim := { program := "ytabpaiboodllbaagreat", sum := "6a8bf26301f07160059851e46523f98b54d891d99bc189b808007293bb102a21", func := "pellicle/pelliclelaw04.SurdSigns", spec := "surdSigns", inPlace := ["internal/bytealg.IndexByteString", "internal/bytealg.IndexString"], named := ["internal/bytealg.MaxLen"], apart := false, narrowed := true }
def SurdSignsUptoSaid : Prop := surdSignsUptoRow.holds Tryz.pinned (OpenSpec.upto surdSignsSpec)

/-- 'pelliclelaw08.OctantGrids', WHERE WHAT IT READS IS OF BULK AT MOST 1048576: true; the input reads as it did. -/
def octantGridsUptoRow : OpenClaim := { program := "ytabpaiboodllbaagreat", sum := "6a8bf26301f07160059851e46523f98b54d891d99bc189b808007293bb102a21", func := "pellicle/pelliclelaw08.OctantGrids", spec := "octantGrids", inPlace := ["internal/bytealg.IndexByteString", "internal/bytealg.IndexString"], named := ["internal/bytealg.MaxLen"], apart := false, narrowed := true }
def OctantGridsUptoSaid : Prop := octantGridsUptoRow.holds Tryz.pinned (OpenSpec.upto octantGridsSpec)

/-- 'pelliclelaw08.OctantLengths', WHERE WHAT IT READS IS OF BULK AT MOST 1048576: true; the input reads as it did. -/
def octantLengthsUptoRow : OpenClaim := { program := "ytabpaiboodllbaagreat", sum := "6a8bf26301f07160059851e46523f98b54d891d99bc189b808007293bb102a21", func := "pellicle/pelliclelaw08.OctantLengths", spec := "octantLengths", inPlace := ["internal/bytealg.IndexByteString", "internal/bytealg.IndexString"], unfollowed := true, recurses := true, named := ["internal/bytealg.MaxLen"], apart := false, narrowed := true }
def OctantLengthsUptoSaid : Prop := octantLengthsUptoRow.holds Tryz.pinned (OpenSpec.upto octantLengthsSpec)

/-- 'pelliclelaw08.OctantThen', WHERE WHAT IT READS IS OF BULK AT MOST 1048576: true; the input reads as it did. -/
def octantThenUptoRow : OpenClaim := { program := "ytabpaiboodllbaagreat", sum := "6a8bf26301f07160059851e46523f98b54d891d99bc189b808007293bb102a21", func := "pellicle/pelliclelaw08.OctantThen", spec := "octantThen", inPlace := ["internal/bytealg.IndexByteString", "internal/bytealg.IndexString"], named := ["internal/bytealg.MaxLen"], apart := false, narrowed := true }
def OctantThenUptoSaid : Prop := octantThenUptoRow.holds Tryz.pinned (OpenSpec.upto octantThenSpec)

/-- 'pelliclelaw08.OctantGroups', WHERE WHAT IT READS IS OF BULK AT MOST 1048576: true; the input reads as it did. -/
def octantGroupsUptoRow : OpenClaim := { program := "ytabpaiboodllbaagreat", sum := "6a8bf26301f07160059851e46523f98b54d891d99bc189b808007293bb102a21", func := "pellicle/pelliclelaw08.OctantGroups", spec := "octantGroups", inPlace := ["internal/bytealg.IndexByteString", "internal/bytealg.IndexString"], named := ["internal/bytealg.MaxLen"], apart := false, narrowed := true }
def OctantGroupsUptoSaid : Prop := octantGroupsUptoRow.holds Tryz.pinned (OpenSpec.upto octantGroupsSpec)

/-- 'pelliclelaw08.OctantFar', WHERE WHAT IT READS IS OF BULK AT MOST 1048576: true; the input reads as it did. -/
def octantFarUptoRow : OpenClaim := { program := "ytabpaiboodllbaagreat", sum := "6a8bf26301f07160059851e46523f98b54d891d99bc189b808007293bb102a21", func := "pellicle/pelliclelaw08.OctantFar", spec := "octantFar", inPlace := ["internal/bytealg.IndexByteString", "internal/bytealg.IndexString"], unfollowed := true, recurses := true, named := ["internal/bytealg.MaxLen"], apart := false, narrowed := true }
def OctantFarUptoSaid : Prop := octantFarUptoRow.holds Tryz.pinned (OpenSpec.upto octantFarSpec)

/-- 'pelliclelaw08.OctantTurns', WHERE WHAT IT READS IS OF BULK AT MOST 1048576: true; the input reads as it did. -/
def octantTurnsUptoRow : OpenClaim := { program := "ytabpaiboodllbaagreat", sum := "6a8bf26301f07160059851e46523f98b54d891d99bc189b808007293bb102a21", func := "pellicle/pelliclelaw08.OctantTurns", spec := "octantTurns", inPlace := ["internal/bytealg.IndexByteString", "internal/bytealg.IndexString"], unfollowed := true, recurses := true, named := ["internal/bytealg.MaxLen"], apart := false, narrowed := true }
def OctantTurnsUptoSaid : Prop := octantTurnsUptoRow.holds Tryz.pinned (OpenSpec.upto octantTurnsSpec)

end Rows
end Go.Proofs.YtabpaiboodllbaaGreat
