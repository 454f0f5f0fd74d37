/- A path that came in: a row of points and four numbers. -/
import Derived.Test.YtaafmafdnnjmdaaVs
import Derived.Test.YtaafmafdnnjmdaaPo
import Derived.Deep.SlicePairs
set_option linter.unusedSimpArgs false
set_option linter.unusedVariables false
namespace Go.Proofs.Ytaafmafdnnjmdaa
open Go.RowKit Go.ChangeShapes Go.WideShapes

def intOf : Value → Int
  | .int _ z => z
  | _ => 0
section
variable {H : Type} {enc : TypeId × Value → H} {P : Program} {w : World}
theorem cell_pts {t e ti : TypeId} {f0 f1 : Field} {c : Value} {n : Nat} {y : DataW H × List MemPlace} (ht : P.underlying t = some (.slice e)) (he : P.underlying e = some (.struct #[f0, f1])) (hce : P.cellsOf e = 2)
    (h0 : f0.type = ti ∧ f0.offset = 0) (h1 : f1.type = ti ∧ f1.offset = 1) (hi : P.underlying ti = some (.int .i64)) (hci : P.cellsOf ti = 1) (h : DataW.trod enc P w 0 (fun _ => true) true n t [c] = some y) :
    ∃ (ao : Option Addr) (n c' : Nat) (pts : List Dp), c = .slice ao n c' ∧ n = pts.length ∧ n ≤ c' ∧ (∀ p ∈ pts, (Lit.int .i64 p.x).wf = true ∧ (Lit.int .i64 p.y).wf = true) ∧ (RA ao (pts.flatMap dpc)).p (fun _ => True) w := by
  rcases Go.Deep.open_slice_pairs ht he hce h0.2 h1.2 (by rw [h0.1]; exact hci) (by rw [h1.1]; exact hci) h with ⟨hcs, _⟩ | ⟨a, len, cap, m, n', V0, V1, D0, D1, P0, P1, hcs, _, hl, _, hm, _, hx⟩
  · simp at hcs
    subst hcs
    exact ⟨none, 0, 0, [], rfl, rfl, Nat.le_refl _, by simp, RA.nil _ _ _⟩
  · simp at hcs
    subst hcs
    simp only [if_true] at hm
    subst hm
    have hz : ∀ i, i < len → ∃ x y : Int, V0 i = .int .i64 x ∧ V1 i = .int .i64 y ∧ (Lit.int .i64 x).wf = true ∧ (Lit.int .i64 y).wf = true := fun i hi' => by
      obtain ⟨_, _, g0, g1⟩ := hx i (by omega)
      rw [h0.1] at g0
      rw [h1.1] at g1
      obtain ⟨x, ex, wx⟩ := cell_int hi g0
      obtain ⟨y, ey, wy⟩ := cell_int hi g1
      exact ⟨x, y, ex, ey, wx, wy⟩
    refine ⟨some a, len, m, (List.range len).map fun i => ⟨intOf (V0 i), intOf (V1 i)⟩, rfl, by simp, hl, fun p hp => ?_, fun hne => ?_⟩
    · obtain ⟨i, hir, rfl⟩ := List.mem_map.1 hp
      obtain ⟨x, y, ex, ey, wx, wy⟩ := hz i (List.mem_range.1 hir)
      simp only [ex, ey, intOf]
      exact ⟨wx, wy⟩
    · have hpos : 0 < len := by
        rcases Nat.eq_zero_or_pos len with h | h
        · subst h
          simp at hne
        · exact h
      have hc0 := (hx 0 (by omega)).1
      obtain ⟨b, off, sp⟩ := a
      have hsp : sp = none := by
        simp only [Addr.add, Nat.zero_mul, if_true] at hc0
        unfold World.cell? at hc0
        split at hc0
        · cases sp with
          | none => rfl
          | some x => simp at hc0
        · simp at hc0
      subst hsp
      refine ⟨b, off, rfl, trivial, fun k v hv => ?_⟩
      have hk : k < len * 2 := by
        have := (List.getElem?_eq_some_iff.1 hv).1
        rw [dp_len] at this
        simpa using this
      have hi2 : k / 2 < len := by omega
      obtain ⟨x, y, ex, ey, _, _⟩ := hz (k / 2) hi2
      obtain ⟨k0, k1, _, _⟩ := hx (k / 2) (by omega)
      have hg : ((List.range len).map fun i => (⟨intOf (V0 i), intOf (V1 i)⟩ : Dp))[k / 2]? = some ⟨x, y⟩ := by
        simp [List.getElem?_map, List.getElem?_range hi2, ex, ey, intOf]
      rcases Nat.mod_two_eq_zero_or_one k with hm2 | hm2
      · have := dp_atq hg 0 (.int .i64 x) rfl
        rw [show k / 2 * 2 + 0 = k by omega] at this
        rw [this] at hv
        injection hv with hv
        rw [← hv]
        rw [add_spot, ex] at k0
        rw [show off + k = off + k / 2 * 2 by omega]
        exact k0
      · have := dp_atq hg 1 (.int .i64 y) rfl
        rw [show k / 2 * 2 + 1 = k by omega] at this
        rw [this] at hv
        injection hv with hv
        rw [← hv]
        rw [add_spot, ey] at k1
        rw [show off + k = off + (k / 2 * 2 + 1) by omega]
        exact k1
theorem open_path {t ts e ti : TypeId} {f0 f1 f2 f3 f4 g0 g1 : Field} {v : Value} {d : DataW H} {ps : List MemPlace} (ht : P.underlying t = some (.struct #[f0, f1, f2, f3, f4])) (hs : P.cellsOf t = 5)
    (h0 : f0.type = ts ∧ f0.offset = 0) (h1 : f1.type = ti ∧ f1.offset = 1) (h2 : f2.type = ti ∧ f2.offset = 2) (h3 : f3.type = ti ∧ f3.offset = 3) (h4 : f4.type = ti ∧ f4.offset = 4) (hts : P.underlying ts = some (.slice e)) (hcs : P.cellsOf ts = 1) (hi : P.underlying ti = some (.int .i64)) (hci : P.cellsOf ti = 1)
    (he : P.underlying e = some (.struct #[g0, g1])) (hce : P.cellsOf e = 2) (k0 : g0.type = ti ∧ g0.offset = 0) (k1 : g1.type = ti ∧ g1.offset = 1) {r : Reach} {b0 : Nat} (hval : Value.okWide P w r b0 t v) (h : DataW.Trod enc P w 0 (fun _ => true) true t v d ps) :
    ∃ (ao : Option Addr) (n c : Nat) (pts : List Dp) (wi ki bi en : Int), v = .agg #[.slice ao n c, .int .i64 wi, .int .i64 ki, .int .i64 bi, .int .i64 en] ∧ n = pts.length ∧ n ≤ c ∧ (∀ p ∈ pts, (Lit.int .i64 p.x).wf = true ∧ (Lit.int .i64 p.y).wf = true) ∧ (Lit.int .i64 wi).wf = true ∧ (Lit.int .i64 ki).wf = true ∧ (Lit.int .i64 bi).wf = true ∧ (Lit.int .i64 en).wf = true ∧ (RA ao (pts.flatMap dpc)).p (fun _ => True) w := by
  obtain ⟨cs, rfl, hsz, hf⟩ := open_cells ht hval h
  rw [hs] at hsz
  obtain ⟨c0, c1, c2, c3, c4, rfl⟩ : ∃ a b c d e, cs = #[a, b, c, d, e] := ⟨cs[0], cs[1], cs[2], cs[3], cs[4], by
    apply Array.ext (by simpa using hsz)
    intro i h1 h2
    simp at h2
    match i, h2 with
    | 0, _ => rfl
    | 1, _ => rfl
    | 2, _ => rfl
    | 3, _ => rfl
    | 4, _ => rfl⟩
  obtain ⟨_, _, q0⟩ := hf 0 f0 rfl h0.2 (by rw [h0.1]; exact hcs) c0 rfl
  obtain ⟨_, _, q1⟩ := hf 1 f1 rfl h1.2 (by rw [h1.1]; exact hci) c1 rfl
  obtain ⟨_, _, q2⟩ := hf 2 f2 rfl h2.2 (by rw [h2.1]; exact hci) c2 rfl
  obtain ⟨_, _, q3⟩ := hf 3 f3 rfl h3.2 (by rw [h3.1]; exact hci) c3 rfl
  obtain ⟨_, _, q4⟩ := hf 4 f4 rfl h4.2 (by rw [h4.1]; exact hci) c4 rfl
  rw [h0.1] at q0
  rw [h1.1] at q1
  rw [h2.1] at q2
  rw [h3.1] at q3
  rw [h4.1] at q4
  obtain ⟨a, rfl, w1⟩ := cell_int hi q1
  obtain ⟨b, rfl, w2⟩ := cell_int hi q2
  obtain ⟨c, rfl, w3⟩ := cell_int hi q3
  obtain ⟨d, rfl, w4⟩ := cell_int hi q4
  obtain ⟨ao, n, c', pts, rfl, m1, m2, m3, m4⟩ := cell_pts hts he hce k0 k1 hi hci q0
  exact ⟨ao, n, c', pts, a, b, c, d, rfl, m1, m2, m3, w1, w2, w3, w4, m4⟩
end
end Go.Proofs.Ytaafmafdnnjmdaa
