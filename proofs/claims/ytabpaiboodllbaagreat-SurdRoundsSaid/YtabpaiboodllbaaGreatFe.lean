
/- The least and the greatest of some quotients. -/
import Derived.Test.YtabpaiboodllbaaGreatFl
import Derived.Test.YtabpaiboodllbaaGreatVy
set_option linter.unusedSimpArgs false
set_option linter.unusedVariables false
namespace Go.Proofs.YtabpaiboodllbaaGreat
open Go.RowKit Go.IntWalk

/-- Quotients in rows. -/
structure QE where
  n : Sl
  nb : Bool
  d : Sl
  db : Bool
  q : Rat
def QR : Rowed QE where
  z := 4
  cells e := [.slice e.n.ao e.n.n e.n.c, .bool e.nb, .slice e.d.ao e.d.n e.d.c, .bool e.db]
  len _ := rfl
  fact L e := QF e.n e.nb e.d e.db (L, e.q)

def LeastOf (l : List QE) (q : Rat) : Prop := (l = [] ∧ q = 0) ∨ ((∃ e ∈ l, e.q = q) ∧ ∀ e ∈ l, q ≤ e.q)
def MostOf (l : List QE) (q : Rat) : Prop := (l = [] ∧ q = 0) ∨ ((∃ e ∈ l, e.q = q) ∧ ∀ e ∈ l, e.q ≤ q)

theorem take_mem {α : Type} {l : List α} {k : Nat} (h : k < l.length) {e : α} : e ∈ l.take (k + 1) ↔ e ∈ l.take k ∨ e = l[k]'h := by
  rw [List.take_succ_eq_append_getElem h, List.mem_append, List.mem_singleton]

theorem least_first {l : List QE} (h : 0 < l.length) : LeastOf (l.take (0 + 1)) (l[0]'h).q := by
  refine .inr ⟨⟨_, (take_mem h).2 (.inr rfl), rfl⟩, fun e he => ?_⟩
  rcases (take_mem h).1 he with he | rfl
  · simp at he
  · exact Rat.le_refl
theorem least_new {l : List QE} {k : Nat} (h : k < l.length) (hk : 0 < k) {q : Rat} (hq : LeastOf (l.take k) q) (hc : (l[k]'h).q < q) : LeastOf (l.take (k + 1)) (l[k]'h).q := by
  refine .inr ⟨⟨_, (take_mem h).2 (.inr rfl), rfl⟩, fun e he => ?_⟩
  rcases (take_mem h).1 he with he | rfl
  · rcases hq with ⟨h0, _⟩ | ⟨_, hall⟩
    · rw [h0] at he; simp at he
    · have := hall e he
      grind
  · exact Rat.le_refl
theorem least_old {l : List QE} {k : Nat} (h : k < l.length) (hk : 0 < k) {q : Rat} (hq : LeastOf (l.take k) q) (hc : ¬ (l[k]'h).q < q) : LeastOf (l.take (k + 1)) q := by
  rcases hq with ⟨h0, _⟩ | ⟨⟨e, he, hq⟩, hall⟩
  · have := congrArg List.length h0
    rw [List.length_take, List.length_nil] at this
    omega
  · refine .inr ⟨⟨e, (take_mem h).2 (.inl he), hq⟩, fun e he => ?_⟩
    rcases (take_mem h).1 he with he | rfl
    · exact hall e he
    · grind
theorem most_first {l : List QE} (h : 0 < l.length) : MostOf (l.take (0 + 1)) (l[0]'h).q := by
  refine .inr ⟨⟨_, (take_mem h).2 (.inr rfl), rfl⟩, fun e he => ?_⟩
  rcases (take_mem h).1 he with he | rfl
  · simp at he
  · exact Rat.le_refl
theorem most_new {l : List QE} {k : Nat} (h : k < l.length) (hk : 0 < k) {q : Rat} (hq : MostOf (l.take k) q) (hc : q < (l[k]'h).q) : MostOf (l.take (k + 1)) (l[k]'h).q := by
  refine .inr ⟨⟨_, (take_mem h).2 (.inr rfl), rfl⟩, fun e he => ?_⟩
  rcases (take_mem h).1 he with he | rfl
  · rcases hq with ⟨h0, _⟩ | ⟨_, hall⟩
    · rw [h0] at he; simp at he
    · have := hall e he
      grind
  · exact Rat.le_refl
theorem most_old {l : List QE} {k : Nat} (h : k < l.length) (hk : 0 < k) {q : Rat} (hq : MostOf (l.take k) q) (hc : ¬ q < (l[k]'h).q) : MostOf (l.take (k + 1)) q := by
  rcases hq with ⟨h0, _⟩ | ⟨⟨e, he, hq⟩, hall⟩
  · have := congrArg List.length h0
    rw [List.length_take, List.length_nil] at this
    omega
  · refine .inr ⟨⟨e, (take_mem h).2 (.inl he), hq⟩, fun e he => ?_⟩
    rcases (take_mem h).1 he with he | rfl
    · exact hall e he
    · grind

section
variable {Γ : List Fact} {L M : Nat}
end

end Go.Proofs.YtabpaiboodllbaaGreat
