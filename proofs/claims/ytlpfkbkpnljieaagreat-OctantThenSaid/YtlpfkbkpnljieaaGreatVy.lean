/- Rows of numbers: what stands in them; rows that grew are given away; rows that are full are appended to. -/
import Derived.Test.YtlpfkbkpnljieaaGreatVx
import Derived.Test.YtlpfkbkpnljieaaGreatPn
set_option linter.unusedSimpArgs false
set_option linter.unusedVariables false
namespace Go.Proofs.YtlpfkbkpnljieaaGreat
open Go.RowKit

/-- A kind of thing that stands in rows. -/
structure Rowed (α : Type) where
  z : Nat
  cells : α → List Value
  len : ∀ e, (cells e).length = z
  fact : Nat → α → Fact
/-- A row of such things at an address. -/
def OL {α : Type} (R : Rowed α) (ao : Option Addr) (a : Nat × List α) : Fact where
  p I w := (∀ e ∈ a.2, (R.fact a.1 e).p I w) ∧ (RA ao (a.2.flatMap R.cells)).p I w
  up := by
    rintro I I' w w' ⟨h, hb⟩ h1 h2 h3
    exact ⟨fun e he => (R.fact a.1 e).up (h e he) h1 h2 h3, (RA ao _).up hb h1 h2 h3⟩
theorem row_len {α : Type} (R : Rowed α) : ∀ l : List α, (l.flatMap R.cells).length = l.length * R.z
  | [] => by simp
  | e :: r => by rw [List.flatMap_cons, List.length_append, R.len, row_len R r, List.length_cons, Nat.add_mul]; omega
theorem row_at {α : Type} (R : Rowed α) {l : List α} : ∀ {k : Nat} (h : k < l.length) (j : Nat) (v : Value), (R.cells (l[k]'h))[j]? = some v → (l.flatMap R.cells)[k * R.z + j]? = some v := by
  induction l with
  | nil => intro k h; simp at h
  | cons e r ih =>
    intro k h j v hv
    cases k with
    | zero =>
      simp only [List.getElem_cons_zero] at hv
      have hj : j < R.z := by rw [← R.len e]; exact (List.getElem?_eq_some_iff.1 hv).1
      rw [List.flatMap_cons, List.getElem?_append_left (by rw [R.len]; omega), show 0 * R.z + j = j by omega]
      exact hv
    | succ k =>
      simp only [List.getElem_cons_succ] at hv
      rw [List.flatMap_cons, List.getElem?_append_right (by rw [R.len, Nat.add_mul]; omega), show (k + 1) * R.z + j - (R.cells e).length = k * R.z + j by rw [R.len, Nat.add_mul]; omega]
      exact ih (by simpa using h) j v hv

section
variable {T : Tb} {P : Program} {fin : VS → List Fact → Prop} {c : Cfg} {Γ : List Fact}

/-- An element of a row: where the row lies, what is known of it. -/
theorem W.el {α : Type} (R : Rowed α) (ao : Option Addr) {L : Nat} {l : List α} [h : Has (OL R ao) (L, l) Γ] (k : Nat) (hk : k < l.length) (hm : midOps c.k = false) (hz : 0 < R.z)
    (hc : ∀ b off, ao = some ⟨b, off, none⟩ → W T P fin c (R.fact L (l[k]'hk) :: Γ)) : W T P fin c Γ :=
  W.elim (α := Nat × Nat) (fun b => ao = some ⟨b.1, b.2, none⟩) (fun b => [R.fact L (l[k]'hk)]) hm (fun I w _ hh => by
    obtain ⟨g1, g2⟩ := h.p hh
    obtain ⟨b, off, ha, _⟩ := g2 (by
      intro e
      have := row_len R l
      simp only at e
      rw [e] at this
      have h2 : 0 < l.length * R.z := Nat.mul_pos (by omega) hz
      simp at this
      omega)
    exact ⟨(b, off), ha, holds1 (g1 _ (List.getElem_mem hk))⟩) (fun b hb => hc b.1 b.2 hb)
/-- Its cells. -/
theorem OL.told {α : Type} (R : Rowed α) (b off : Nat) {L : Nat} {l : List α} [h : Has (OL R (some ⟨b, off, none⟩)) (L, l) Γ] (k : Nat) (hk : k < l.length) : ∀ I w, DataOK T I w → Holds Γ I w → ∀ j v, (R.cells (l[k]'hk))[j]? = some v → w.cell? ⟨b, off + k * R.z + j, none⟩ = some v := fun I w _ hh j v hv => by
  obtain ⟨_, g2⟩ := h.p hh
  rw [Nat.add_assoc]
  exact RA.cell g2 (row_at R hk j v hv)
theorem reads_ra (ao : Option Addr) {xs : List Value} [h : Has (RA ao) xs Γ] (own : List (Nat × List Value)) (m z c : Nat) (hl : xs.length = m * z) (ha : 0 < m → ∃ b off, ao = some ⟨b, off, none⟩) : Reads T Γ own (.slice ao m c) m z xs :=
  ⟨ao, c, rfl, hl, fun hm => by
    obtain ⟨b, off, rfl⟩ := ha hm
    exact ⟨⟨b, off, none⟩, rfl, fun I w _ hh _ j u hu => by
      rw [add_spot]
      exact RA.cell (h.p hh) hu⟩⟩

end

end Go.Proofs.YtlpfkbkpnljieaaGreat
