/- A row of ways that came in; the turn that leaves all where it is. -/
import Derived.Test.YtlpfkbkpnljieaaGreatVs
import Derived.Test.YtlpfkbkpnljieaaGreatTk
import Derived.Deep.Slices
set_option linter.unusedSimpArgs false
set_option linter.unusedVariables false
namespace Go.Proofs.YtlpfkbkpnljieaaGreat
open Go.RowKit Go.ChangeShapes Go.WideShapes

/-- A way, as it comes in. -/
structure Wy where
  f : Bool
  k : Int
  m : ByteArray
  x : ByteArray
  y : ByteArray
instance : Inhabited Wy := ⟨⟨false, 0, ⟨#[]⟩, ⟨#[]⟩, ⟨#[]⟩⟩⟩
def wyOk (w : Wy) : Prop := (Lit.int .i64 w.k).wf = true ∧ w.m.size ≤ 9223372036854775807 ∧ w.x.size ≤ 9223372036854775807 ∧ w.y.size ≤ 9223372036854775807
def tru : Fact where
  p _ _ := True
  up _ _ _ _ := trivial
def PWy : Rowed Wy where
  z := 5
  cells w := [.bool w.f, .int .i64 w.k, .string w.m, .string w.x, .string w.y]
  len _ := rfl
  fact _ _ := tru
section
variable {H : Type} {enc : TypeId × Value → H} {P : Program} {w : World}
theorem open_ways {t e tb' ti ts : TypeId} {f0 f1 f2 f3 f4 : Field} {v : Value} {d : DataW H} {ps : List MemPlace} (ht : P.underlying t = some (.slice e)) (he : P.underlying e = some (.struct #[f0, f1, f2, f3, f4])) (hce : P.cellsOf e = 5)
    (h0 : f0.type = tb' ∧ f0.offset = 0) (h1 : f1.type = ti ∧ f1.offset = 1) (h2 : f2.type = ts ∧ f2.offset = 2) (h3 : f3.type = ts ∧ f3.offset = 3) (h4 : f4.type = ts ∧ f4.offset = 4)
    (hb : P.underlying tb' = some .bool) (hcb : P.cellsOf tb' = 1) (hi : P.underlying ti = some (.int .i64)) (hci : P.cellsOf ti = 1) (hts : P.underlying ts = some .string) (hcs : P.cellsOf ts = 1)
    {r : Reach} {b0 : Nat} (hval : Value.okWide P w r b0 t v) (h : DataW.Trod enc P w 0 (fun _ => true) true t v d ps) :
    ∃ (ao : Option Addr) (n c : Nat) (ws : List Wy), v = .slice ao n c ∧ n = ws.length ∧ (∀ x ∈ ws, wyOk x) ∧ (RA ao (ws.flatMap PWy.cells)).p (fun _ => True) w := by
  obtain ⟨ao, n, c, hv⟩ := okWide_slice ht hval
  subst hv
  obtain ⟨fuel, hf⟩ := h
  rcases Go.Deep.open_slice ht hf with ⟨hcs', _⟩ | ⟨a, len, cap, m, n', D, Pl, hcs', _, hl, _, hm, _, hx⟩
  · simp [Value.cells] at hcs'
    obtain ⟨rfl, rfl, rfl⟩ := hcs'
    exact ⟨none, 0, 0, [], rfl, rfl, by simp, RA.nil _ _ _⟩
  · simp [Value.cells] at hcs'
    obtain ⟨rfl, rfl, rfl⟩ := hcs'
    simp only [if_true] at hm
    have each : ∀ i, i < m → ∃ q : Wy, wyOk q ∧ ∀ j v, (PWy.cells q)[j]? = some v → w.cell? (a.add (i * 5 + j)) = some v := by
      intro i hi'
      obtain ⟨cs', g1, g2⟩ := hx i hi'
      rw [hce] at g1
      obtain ⟨_, hlen, hcell⟩ := World.cells?_some g1
      obtain ⟨xs, k, hk, hxy, _, hxl, hf⟩ := DataW.trod_struct he g2
      match xs, hxl, cs', hlen with
      | [y0, y1, y2, y3, y4], _, [v0, v1, v2, v3, v4], _ =>
        have q0 := hf 0 f0 rfl
        have q1 := hf 1 f1 rfl
        have q2 := hf 2 f2 rfl
        have q3 := hf 3 f3 rfl
        have q4 := hf 4 f4 rfl
        simp [h0.1, h1.1, h2.1, h3.1, h4.1, h0.2, h1.2, h2.2, h3.2, h4.2, hcb, hci, hcs] at q0 q1 q2 q3 q4
        obtain ⟨f, rfl⟩ := cell_bool hb q0
        obtain ⟨z, rfl, w1⟩ := cell_int hi q1
        obtain ⟨s2, rfl, w2⟩ := cell_str hts q2
        obtain ⟨s3, rfl, w3⟩ := cell_str hts q3
        obtain ⟨s4, rfl, w4⟩ := cell_str hts q4
        refine ⟨⟨f, z, s2, s3, s4⟩, ⟨w1, w2, w3, w4⟩, fun j v hv => ?_⟩
        have hj : j < 5 := by
          have := (List.getElem?_eq_some_iff.1 hv).1
          exact this
        have e0 := hcell j hj
        rw [Go.Deep.add_add] at e0
        rw [e0]
        exact hv
    obtain ⟨q, hq⟩ := Go.Deep.choose_lt each
    have hnm : n ≤ m := by omega
    refine ⟨some a, n, c, (List.range n).map q, rfl, by simp, fun x hx' => ?_, fun hne => ?_⟩
    · obtain ⟨i, hir, rfl⟩ := List.mem_map.1 hx'
      exact (hq i (by have := List.mem_range.1 hir; omega)).1
    · have hpos : 0 < n := by
        rcases Nat.eq_zero_or_pos n with h | h
        · subst h
          simp at hne
        · exact h
      have hc0 := (hq 0 (by omega)).2 0 (.bool (q 0).f) rfl
      obtain ⟨b, off, sp⟩ := a
      have hsp : sp = none := by
        simp only [Addr.add, Nat.zero_mul, Nat.add_zero, if_true] at hc0
        unfold World.cell? at hc0
        split at hc0
        · cases sp with
          | none => rfl
          | some x => simp at hc0
        · simp at hc0
      subst hsp
      refine ⟨b, off, rfl, trivial, fun k v hv => ?_⟩
      have hlen : (((List.range n).map q).flatMap PWy.cells).length = n * 5 := by
        have g : ∀ l : List Wy, (l.flatMap PWy.cells).length = l.length * 5 := fun l => by
          induction l with
          | nil => rfl
          | cons a l ih => rw [List.flatMap_cons, List.length_append, ih, PWy.len, List.length_cons]; show 5 + _ = _; omega
        rw [g]
        simp
      have hk : k < n * 5 := by
        have := (List.getElem?_eq_some_iff.1 hv).1
        omega
      have hi2 : k / 5 < n := by omega
      have hil : k / 5 < ((List.range n).map q).length := by simpa using hi2
      have hqe : ((List.range n).map q)[k / 5]'hil = q (k / 5) := by simp
      have hj5 : k % 5 < (PWy.cells (q (k / 5))).length := by rw [PWy.len]; exact Nat.mod_lt _ (by decide)
      have hv2 := row_at PWy hil (k % 5) ((PWy.cells (q (k / 5)))[k % 5]'hj5) (by rw [hqe]; exact List.getElem?_eq_getElem hj5)
      have hke : k / 5 * PWy.z + k % 5 = k := by show k / 5 * 5 + k % 5 = k; omega
      rw [hke, hv] at hv2
      injection hv2 with hv2
      have := (hq (k / 5) (by omega)).2 (k % 5) _ (List.getElem?_eq_getElem hj5)
      rw [add_spot] at this
      rw [hv2, ← this, show k / 5 * 5 + k % 5 = k by omega]
end
section
variable {Γ : List Fact} {L M : Nat}
abbrev nilQ5 : Q5 := ⟨nilQ, nilQ, nilQ, nilQ, nilQ⟩
theorem of_nil {L' : Nat} {I : Blk} {w : World} (hd : DataOK tb I w) (hh : Holds Γ I w) : (OF nilQ5 (L', on0)).p I w := by
  have h := (entQ0 (Γ := Γ) (L' := L') I w hd hh).h0'
  exact ⟨h, h, h, h, h⟩
theorem entEB (x : R6) {U : Rn} {a b : Nat} {X Y : Sn} [h : Has (RB x) ((a, b), U) Γ] (hX : U.E = X) (hY : U.F = Y) : ∀ (I : Blk) (w : World), DataOK tb I w → Holds Γ I w → Holds [TB x.E (B4.all b, X), TB x.F (B4.all b, Y)] I w := fun I w _ hh => by
  subst hX hY
  obtain ⟨g1, g2, g3, g4, g5, g6⟩ := h.p hh
  exact Holds.cons g5 (holds1 g6)
theorem u_at8E (x : R6) (p q : Tw) {U : Rn} {P Q X Y : Sn} {a t m : Nat} [Has (RB x) ((a, t), U) Γ] [Has (TB p) (B4.all m, P) Γ] [Has (TB q) (B4.all m, Q) Γ] (hX : U.X P Q = X) (hY : U.Y P Q = Y) (hL : 8 * a + 8 * m + 14 + t ≤ 100000000000000 := by omega) :
    PCalls tb Tryz.prog 12 [rtv x.A x.B x.C x.D x.E x.F, spv p q] Γ (SBPost (8 * a + 8 * m + 14 + t) X Y) := by
  subst hX hY
  exact u_at8 x p q hL
end
end Go.Proofs.YtlpfkbkpnljieaaGreat
