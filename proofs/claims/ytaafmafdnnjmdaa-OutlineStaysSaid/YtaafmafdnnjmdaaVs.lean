
/- Arguments that are structures: what stands in them. -/
import Derived.Test.YtaafmafdnnjmdaaVx
import Derived.ChangeSame
set_option linter.unusedSimpArgs false
set_option linter.unusedVariables false
namespace Go.Proofs.Ytaafmafdnnjmdaa
open Go.RowKit Go.ChangeShapes Go.WideShapes

section
variable {H : Type} {enc : TypeId × Value → H} {P : Program} {w : World}

/-- The cells of a structure whose fields are one cell each. -/
theorem open_cells {t : TypeId} {fs : Array Field} {v : Value} {d : DataW H} {ps : List MemPlace} (ht : P.underlying t = some (.struct fs)) {r : Reach} {b0 : Nat} (hval : Value.okWide P w r b0 t v) (h : DataW.Trod enc P w 0 (fun _ => true) true t v d ps) :
    ∃ cs : Array Value, v = .agg cs ∧ cs.size = P.cellsOf t ∧ ∀ (i : Nat) (f : Field), fs[i]? = some f → f.offset = i → P.cellsOf f.type = 1 → ∀ c, cs[i]? = some c → ∃ n y, DataW.trod enc P w 0 (fun _ => true) true n f.type [c] = some y := by
  obtain ⟨cs, rfl, hsz⟩ := okWide_struct ht hval
  obtain ⟨fuel, hf⟩ := h
  obtain ⟨xs, n, _, hx, hl, hlen, hff⟩ := DataW.trod_struct ht hf
  refine ⟨cs, rfl, hsz, fun i f hi ho hc c hcs => ?_⟩
  have hix : i < xs.length := by
    have := (Array.getElem?_eq_some_iff.1 hi).1
    omega
  have := hff i f hi
  rw [ho, hc] at this
  refine ⟨n, xs[i], ?_⟩
  have e : ((Value.agg cs).cells.toList.drop i).take 1 = [c] := by
    have hlt := (Array.getElem?_eq_some_iff.1 hcs).1
    simp only [Value.cells]
    rw [List.drop_eq_getElem_cons (by simpa using hlt)]
    simp only [List.take_succ_cons, List.take_zero, Array.getElem_toList]
    rw [(Array.getElem?_eq_some_iff.1 hcs).2]
  rw [e] at this
  rw [this, List.getElem?_eq_getElem hix]

theorem cell_int {t : TypeId} {k : IntKind} {c : Value} {n : Nat} {y : DataW H × List MemPlace} (ht : P.underlying t = some (.int k)) (h : DataW.trod enc P w 0 (fun _ => true) true n t [c] = some y) : ∃ z, c = .int k z ∧ (Lit.int k z).wf = true := by
  obtain ⟨z, hc, _, hw⟩ := DataW.trod_int ht h
  simp at hc
  exact ⟨z, hc, hw⟩
theorem cell_str {t : TypeId} {c : Value} {n : Nat} {y : DataW H × List MemPlace} (ht : P.underlying t = some .string) (h : DataW.trod enc P w 0 (fun _ => true) true n t [c] = some y) : ∃ s : ByteArray, c = .string s ∧ s.size ≤ 9223372036854775807 := by
  obtain ⟨s, hc, _, hw⟩ := DataW.trod_string ht h
  simp at hc
  exact ⟨s, hc, hw⟩
theorem cell_bool {t : TypeId} {c : Value} {n : Nat} {y : DataW H × List MemPlace} (ht : P.underlying t = some .bool) (h : DataW.trod enc P w 0 (fun _ => true) true n t [c] = some y) : ∃ b, c = .bool b := by
  cases n with
  | zero => simp [DataW.trod] at h
  | succ n =>
    cases c <;> simp [DataW.trod, ht] at h
    exact ⟨_, rfl⟩
theorem cell_strs {t e : TypeId} {c : Value} {n : Nat} {y : DataW H × List MemPlace} (ht : P.underlying t = some (.slice e)) (he : P.underlying e = some .string) (hc : P.cellsOf e = 1) (h : DataW.trod enc P w 0 (fun _ => true) true n t [c] = some y) :
    ∃ (ao : Option Addr) (n c' : Nat) (ss : List ByteArray), c = .slice ao n c' ∧ n = ss.length ∧ (∀ s ∈ ss, s.size ≤ 9223372036854775807) ∧ (RA ao (ss.map Value.string)).p (fun _ => True) w := by
  obtain ⟨d, ps⟩ := y
  have hT : ∀ ao n' c', c = .slice ao n' c' → DataW.Trod enc P w 0 (fun _ => true) true t c d ps := fun ao n' c' hc => ⟨n, by rw [hc] at h ⊢; exact h⟩
  rcases open_strings ht he hc h with ⟨hcs, _⟩ | ⟨a, len, cap, ss, hcs, _⟩
  · simp at hcs
    obtain ⟨ss, h1, h2, h3⟩ := row_strs ht he hc hcs (hT _ _ _ hcs)
    exact ⟨_, _, _, ss, hcs, h1, h2, h3⟩
  · simp at hcs
    obtain ⟨ss, h1, h2, h3⟩ := row_strs ht he hc hcs (hT _ _ _ hcs)
    exact ⟨_, _, _, ss, hcs, h1, h2, h3⟩

/-- Two whole numbers and a row of texts. -/
theorem open_num {t ti ts e : TypeId} {f0 f1 f2 : Field} {v : Value} {d : DataW H} {ps : List MemPlace} (ht : P.underlying t = some (.struct #[f0, f1, f2])) (hs : P.cellsOf t = 3)
    (h0 : f0.type = ti ∧ f0.offset = 0) (h1 : f1.type = ti ∧ f1.offset = 1) (h2 : f2.type = ts ∧ f2.offset = 2) (hi : P.underlying ti = some (.int .i64)) (hci : P.cellsOf ti = 1) (hts : P.underlying ts = some (.slice e)) (hcs : P.cellsOf ts = 1)
    (he : P.underlying e = some .string) (hce : P.cellsOf e = 1) {r : Reach} {b0 : Nat} (hval : Value.okWide P w r b0 t v) (h : DataW.Trod enc P w 0 (fun _ => true) true t v d ps) :
    ∃ (M N : Int) (ao : Option Addr) (n c : Nat) (ss : List ByteArray), v = .agg #[.int .i64 M, .int .i64 N, .slice ao n c] ∧ (Lit.int .i64 M).wf = true ∧ (Lit.int .i64 N).wf = true ∧ n = ss.length ∧ (∀ s ∈ ss, s.size ≤ 9223372036854775807) ∧ (RA ao (ss.map Value.string)).p (fun _ => True) w := by
  obtain ⟨cs, rfl, hsz, hf⟩ := open_cells ht hval h
  rw [hs] at hsz
  obtain ⟨c0, c1, c2, rfl⟩ : ∃ a b c, cs = #[a, b, c] := ⟨cs[0], cs[1], cs[2], by
    apply Array.ext (by simpa using hsz)
    intro i h1 h2
    simp at h2
    match i, h2 with
    | 0, _ => rfl
    | 1, _ => rfl
    | 2, _ => rfl⟩
  obtain ⟨_, _, g0⟩ := hf 0 f0 rfl h0.2 (by rw [h0.1]; exact hci) c0 rfl
  obtain ⟨_, _, g1⟩ := hf 1 f1 rfl h1.2 (by rw [h1.1]; exact hci) c1 rfl
  obtain ⟨_, _, g2⟩ := hf 2 f2 rfl h2.2 (by rw [h2.1]; exact hcs) c2 rfl
  rw [h0.1] at g0
  rw [h1.1] at g1
  rw [h2.1] at g2
  obtain ⟨M, rfl, w0⟩ := cell_int hi g0
  obtain ⟨N, rfl, w1⟩ := cell_int hi g1
  obtain ⟨ao, n, c, ss, rfl, k1, k2, k3⟩ := cell_strs hts he hce g2
  exact ⟨M, N, ao, n, c, ss, rfl, w0, w1, k1, k2, k3⟩
/-- A flag, a whole number, three texts. -/
theorem open_way {t tb' ti ts : TypeId} {f0 f1 f2 f3 f4 : Field} {v : Value} {d : DataW H} {ps : List MemPlace} (ht : P.underlying t = some (.struct #[f0, f1, f2, f3, f4])) (hs : P.cellsOf t = 5)
    (h0 : f0.type = tb' ∧ f0.offset = 0) (h1 : f1.type = ti ∧ f1.offset = 1) (h2 : f2.type = ts ∧ f2.offset = 2) (h3 : f3.type = ts ∧ f3.offset = 3) (h4 : f4.type = ts ∧ f4.offset = 4)
    (hb : P.underlying tb' = some .bool) (hcb : P.cellsOf tb' = 1) (hi : P.underlying ti = some (.int .i64)) (hci : P.cellsOf ti = 1) (hts : P.underlying ts = some .string) (hcs : P.cellsOf ts = 1)
    {r : Reach} {b0 : Nat} (hval : Value.okWide P w r b0 t v) (h : DataW.Trod enc P w 0 (fun _ => true) true t v d ps) :
    ∃ (f : Bool) (k : Int) (m x y : ByteArray), v = .agg #[.bool f, .int .i64 k, .string m, .string x, .string y] ∧ (Lit.int .i64 k).wf = true ∧ m.size ≤ 9223372036854775807 ∧ x.size ≤ 9223372036854775807 ∧ y.size ≤ 9223372036854775807 := by
  obtain ⟨cs, rfl, hsz, hf⟩ := open_cells ht hval h
  rw [hs] at hsz
  obtain ⟨c0, c1, c2, c3, c4, rfl⟩ : ∃ a b c d e, cs = #[a, b, c, d, e] := ⟨cs[0], cs[1], cs[2], cs[3], cs[4], by
    apply Array.ext (by simpa using hsz)
    intro i h1 h2
    simp at h2
    match i, h2 with
    | 0, _ => rfl
    | 1, _ => rfl
    | 2, _ => rfl
    | 3, _ => rfl
    | 4, _ => rfl⟩
  obtain ⟨_, _, g0⟩ := hf 0 f0 rfl h0.2 (by rw [h0.1]; exact hcb) c0 rfl
  obtain ⟨_, _, g1⟩ := hf 1 f1 rfl h1.2 (by rw [h1.1]; exact hci) c1 rfl
  obtain ⟨_, _, g2⟩ := hf 2 f2 rfl h2.2 (by rw [h2.1]; exact hcs) c2 rfl
  obtain ⟨_, _, g3⟩ := hf 3 f3 rfl h3.2 (by rw [h3.1]; exact hcs) c3 rfl
  obtain ⟨_, _, g4⟩ := hf 4 f4 rfl h4.2 (by rw [h4.1]; exact hcs) c4 rfl
  rw [h0.1] at g0
  rw [h1.1] at g1
  rw [h2.1] at g2
  rw [h3.1] at g3
  rw [h4.1] at g4
  obtain ⟨f, rfl⟩ := cell_bool hb g0
  obtain ⟨k, rfl, w1⟩ := cell_int hi g1
  obtain ⟨m, rfl, w2⟩ := cell_str hts g2
  obtain ⟨x, rfl, w3⟩ := cell_str hts g3
  obtain ⟨y, rfl, w4⟩ := cell_str hts g4
  exact ⟨f, k, m, x, y, rfl, w1, w2, w3, w4⟩
/-- Two whole numbers. -/
theorem open_pt {t ti : TypeId} {f0 f1 : Field} {v : Value} {d : DataW H} {ps : List MemPlace} (ht : P.underlying t = some (.struct #[f0, f1])) (hs : P.cellsOf t = 2)
    (h0 : f0.type = ti ∧ f0.offset = 0) (h1 : f1.type = ti ∧ f1.offset = 1) (hi : P.underlying ti = some (.int .i64)) (hci : P.cellsOf ti = 1)
    {r : Reach} {b0 : Nat} (hval : Value.okWide P w r b0 t v) (h : DataW.Trod enc P w 0 (fun _ => true) true t v d ps) :
    ∃ (a b : Int), v = .agg #[.int .i64 a, .int .i64 b] ∧ (Lit.int .i64 a).wf = true ∧ (Lit.int .i64 b).wf = true := by
  obtain ⟨cs, rfl, hsz, hf⟩ := open_cells ht hval h
  rw [hs] at hsz
  obtain ⟨c0, c1, rfl⟩ : ∃ a b, cs = #[a, b] := ⟨cs[0], cs[1], by
    apply Array.ext (by simpa using hsz)
    intro i h1 h2
    simp at h2
    match i, h2 with
    | 0, _ => rfl
    | 1, _ => rfl⟩
  obtain ⟨_, _, g0⟩ := hf 0 f0 rfl h0.2 (by rw [h0.1]; exact hci) c0 rfl
  obtain ⟨_, _, g1⟩ := hf 1 f1 rfl h1.2 (by rw [h1.1]; exact hci) c1 rfl
  rw [h0.1] at g0
  rw [h1.1] at g1
  obtain ⟨a, rfl, w0⟩ := cell_int hi g0
  obtain ⟨b, rfl, w1⟩ := cell_int hi g1
  exact ⟨a, b, rfl, w0, w1⟩
end
end Go.Proofs.Ytaafmafdnnjmdaa
