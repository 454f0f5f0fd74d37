/- The last step of a law: a call that answers true and leaves all that was there. -/
import Derived.Below
import Derived.ChangeSame
import Derived.ProofKit
import Derived.OpenShut
set_option linter.unusedSimpArgs false
set_option linter.unusedVariables false
namespace Go.Proofs.YtlpfkbkpnljieaaGreat
open Go.ChangeShapes Go.WideShapes Go.ChangeAt Go.RowKit

/-- A law's post, where of the world behind the call it is known that nothing of before has changed. -/
theorem law_post {H : Type} {enc : TypeId × Value → H} {P : Program} {f : Func} {s : ChangeSpec} {W W' : World} {args : Array Value} {v : Value} {ds : List (DataW H)} {before : List MemPlace}
    (hW : DataW.Whole enc P f.params.toList s.vars false W args.toList ds [] before) (hvs : s.vars = [])
    (hres : ∀ (b : Nat) (sp : Nat → Bool) (hd : Bool), DataW.TrodAll enc P W' b sp hd f.resultTypes.toList (v.resultList f.resultTypes.size) (s.fn H (ds ++ [])).results [])
    (hargs : ∀ sp : Nat → Bool, (∀ p ∈ before, sp p.block = true) → DataW.TrodAll enc P W' 0 sp true f.params.toList args.toList (s.fn H (ds ++ [])).args before)
    (hv0 : (s.fn H (ds ++ [])).vars = []) (hb : Below W.heap.size W W') :
    s.post enc P f false true false false W args v W' := by
  have hin : ∀ p ∈ before, decide (p.block < W.heap.size) = true := fun p hp => decide_eq_true (hW.lt p hp)
  have hvars : ∀ sp : Nat → Bool, DataW.TrodVars enc P W' sp s.vars (s.fn H (ds ++ [])).vars [] := fun sp => by
    rw [hvs, hv0]
    rfl
  have hkeep : W.keptBut W' (fun p => p ∈ before ∧ (p ∈ ([] : List MemPlace) ∨ p ∈ before ∨ p ∈ ([] : List MemPlace))) :=
    World.keptBut_mono (fun p hp => ⟨hp, .inr (.inl hp)⟩) (hb.frame (· ∈ before))
  refine ⟨ds, [], before, [], before, [], hW, hres _ _ _, hargs _ hin, hvars _, hkeep, fun h => absurd h (by simp)⟩

end Go.Proofs.YtlpfkbkpnljieaaGreat
