
/- A place's parts in memory. -/
import Derived.Test.YtabpaiboodllbaaGreatVs
set_option linter.unusedSimpArgs false
set_option linter.unusedVariables false
namespace Go.Proofs.YtabpaiboodllbaaGreat
open Go.RowKit Go.ChangeShapes Go.WideShapes
variable {H : Type} {enc : TypeId × Value → H} {P : Program} {w : World}
/-- Two whole numbers, two rows of texts. -/
theorem open_spot {t ti ts e : TypeId} {f0 f1 f2 f3 : Field} {v : Value} {d : DataW H} {ps : List MemPlace} (ht : P.underlying t = some (.struct #[f0, f1, f2, f3])) (hs : P.cellsOf t = 4)
    (h0 : f0.type = ti ∧ f0.offset = 0) (h1 : f1.type = ti ∧ f1.offset = 1) (h2 : f2.type = ts ∧ f2.offset = 2) (h3 : f3.type = ts ∧ f3.offset = 3) (hi : P.underlying ti = some (.int .i64)) (hci : P.cellsOf ti = 1) (hts : P.underlying ts = some (.slice e)) (hcs : P.cellsOf ts = 1)
    (he : P.underlying e = some .string) (hce : P.cellsOf e = 1) {r : Reach} {b0 : Nat} (hval : Value.okWide P w r b0 t v) (h : DataW.Trod enc P w 0 (fun _ => true) true t v d ps) :
    ∃ (M N : Int) (ao : Option Addr) (n c : Nat) (ss : List ByteArray) (bo : Option Addr) (l q : Nat) (rs : List ByteArray), v = .agg #[.int .i64 M, .int .i64 N, .slice ao n c, .slice bo l q] ∧ (Lit.int .i64 M).wf = true ∧ (Lit.int .i64 N).wf = true ∧ n = ss.length ∧ (∀ s ∈ ss, s.size ≤ 9223372036854775807) ∧ (RA ao (ss.map Value.string)).p (fun _ => True) w ∧ l = rs.length ∧ (∀ s ∈ rs, s.size ≤ 9223372036854775807) ∧ (RA bo (rs.map Value.string)).p (fun _ => True) w := by
  obtain ⟨cs, rfl, hsz, hf⟩ := open_cells ht hval h
  rw [hs] at hsz
  obtain ⟨c0, c1, c2, c3, rfl⟩ : ∃ a b c d, cs = #[a, b, c, d] := ⟨cs[0], cs[1], cs[2], cs[3], by
    apply Array.ext (by simpa using hsz)
    intro i h1 h2
    simp at h2
    match i, h2 with
    | 0, _ => rfl
    | 1, _ => rfl
    | 2, _ => rfl
    | 3, _ => rfl⟩
  obtain ⟨_, _, g0⟩ := hf 0 f0 rfl h0.2 (by rw [h0.1]; exact hci) c0 rfl
  obtain ⟨_, _, g1⟩ := hf 1 f1 rfl h1.2 (by rw [h1.1]; exact hci) c1 rfl
  obtain ⟨_, _, g2⟩ := hf 2 f2 rfl h2.2 (by rw [h2.1]; exact hcs) c2 rfl
  obtain ⟨_, _, g3⟩ := hf 3 f3 rfl h3.2 (by rw [h3.1]; exact hcs) c3 rfl
  rw [h0.1] at g0
  rw [h1.1] at g1
  rw [h2.1] at g2
  rw [h3.1] at g3
  obtain ⟨M, rfl, w0⟩ := cell_int hi g0
  obtain ⟨N, rfl, w1⟩ := cell_int hi g1
  obtain ⟨ao, n, c, ss, rfl, k1, k2, k3⟩ := cell_strs hts he hce g2
  obtain ⟨bo, l, q, rs, rfl, k4, k5, k6⟩ := cell_strs hts he hce g3
  exact ⟨M, N, ao, n, c, ss, bo, l, q, rs, rfl, w0, w1, k1, k2, k3, k4, k5, k6⟩
end Go.Proofs.YtabpaiboodllbaaGreat
