/- Arguments that are structures: what stands in them. -/
import Derived.Test.YtaafmafdnnjmdaaVx
import Derived.ChangeSame
set_option linter.unusedSimpArgs false
set_option linter.unusedVariables false
namespace Go.Proofs.Ytaafmafdnnjmdaa
open Go.RowKit Go.ChangeShapes Go.WideShapes

section
variable {H : Type} {enc : TypeId × Value → H} {P : Program} {w : World}

/-- The cells of a structure whose fields are one cell each. -/
theorem open_cells {t : TypeId} {fs : Array Field} {v : Value} {d : DataW H} {ps : List MemPlace} (ht : P.underlying t = some (.struct fs)) {r : Reach} {b0 : Nat} (hval : Value.okWide P w r b0 t v) (h : DataW.Trod enc P w 0 (fun _ => true) true t v d ps) :
    ∃ cs : Array Value, v = .agg cs ∧ cs.size = P.cellsOf t ∧ ∀ (i : Nat) (f : Field), fs[i]? = some f → f.offset = i → P.cellsOf f.type = 1 → ∀ c, cs[i]? = some c → ∃ n y, DataW.trod enc P w 0 (fun _ => true) true n f.type [c] = some y := by
  obtain ⟨cs, rfl, hsz⟩ := okWide_struct ht hval
  obtain ⟨fuel, hf⟩ := h
  obtain ⟨xs, n, _, hx, hl, hlen, hff⟩ := DataW.trod_struct ht hf
  refine ⟨cs, rfl, hsz, fun i f hi ho hc c hcs => ?_⟩
  have hix : i < xs.length := by
    have := (Array.getElem?_eq_some_iff.1 hi).1
    omega
  have := hff i f hi
  rw [ho, hc] at this
  refine ⟨n, xs[i], ?_⟩
  have e : ((Value.agg cs).cells.toList.drop i).take 1 = [c] := by
    have hlt := (Array.getElem?_eq_some_iff.1 hcs).1
    simp only [Value.cells]
    rw [List.drop_eq_getElem_cons (by simpa using hlt)]
    simp only [List.take_succ_cons, List.take_zero, Array.getElem_toList]
    rw [(Array.getElem?_eq_some_iff.1 hcs).2]
  rw [e] at this
  rw [this, List.getElem?_eq_getElem hix]

theorem cell_int {t : TypeId} {k : IntKind} {c : Value} {n : Nat} {y : DataW H × List MemPlace} (ht : P.underlying t = some (.int k)) (h : DataW.trod enc P w 0 (fun _ => true) true n t [c] = some y) : ∃ z, c = .int k z ∧ (Lit.int k z).wf = true := by
  obtain ⟨z, hc, _, hw⟩ := DataW.trod_int ht h
  simp at hc
  exact ⟨z, hc, hw⟩
end
end Go.Proofs.Ytaafmafdnnjmdaa
