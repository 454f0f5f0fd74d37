/- For the laws: boxes of two, and Cmp as an order. -/
import Derived.Test.YtahfnbbdhhehhaaLawD
namespace Go.Proofs.Ytahfnbbdhhehhaa
open Go.RowKit

theorem NatS.drew {W : World} {s : Sl} {x : Nat} (h : NatS W s x) : NatS W.drew s x := h

theorem of_zero (w : World) : Calls Try.prog 22 #[.int .u64 0] w fun e w' =>
      ∃ u : Sl, e = .returned (.agg #[.slice u.ao u.n u.c]) ∧ NatS w' u 0 ∧ u.n ≤ 2 ∧ Below w.heap.size w w' := of_spec 0 w (by omega)

/-- The texts' numbers, in boxes. -/
def Two4 (W : World) (a b x y : Sl) : World := (((W.alloc (.cells #[.slice a.ao a.n a.c] 24)).alloc (.cells #[.slice b.ao b.n b.c] 24)).alloc (.cells #[.slice x.ao x.n x.c] 30)).alloc (.cells #[.slice y.ao y.n y.c] 30)

theorem two4 (W : World) (a b x y : Sl) : Grew W (Two4 W a b x y) ∧ (Two4 W a b x y).heap[W.heap.size]? = some (.cells #[.slice a.ao a.n a.c] 24 (0, 0)) ∧ (Two4 W a b x y).heap[W.heap.size + 1]? = some (.cells #[.slice b.ao b.n b.c] 24 (0, 0)) ∧
    (Two4 W a b x y).heap[W.heap.size + 1 + 1]? = some (.cells #[.slice x.ao x.n x.c] 30 (0, 0)) ∧ (Two4 W a b x y).heap[W.heap.size + 1 + 1 + 1]? = some (.cells #[.slice y.ao y.n y.c] 30 (0, 0)) := by
  have h := ents4 W (.cells #[.slice a.ao a.n a.c] 24) (.cells #[.slice b.ao b.n b.c] 24) (.cells #[.slice x.ao x.n x.c] 30) (.cells #[.slice y.ao y.n y.c] 30)
  exact ⟨ents4g _ _ _ _ _, h.1, h.2.1, h.2.2.1, h.2.2.2.1⟩

theorem cmp_same {w : World} {s t : Sl} {x y : Nat} (h : NatS w s x) (h' : NatS w t y) (hn : s.n ≤ 1000000000000) (hm : t.n ≤ 1000000000000) (e : x = y) :
    Calls Try.prog 26 #[.agg #[.slice s.ao s.n s.c], .agg #[.slice t.ao t.n t.c]] w fun e w' =>
      e = .returned (.int .i64 0) ∧ Below w.heap.size w w' := by
  subst e
  have := cmp_spec h h' hn hm
  rw [cmpN_eq] at this
  exact this

theorem div_nil {w : World} {s t : Sl} (h : NatS w t 0) :
    Calls Try.prog 31 #[.agg #[.slice s.ao s.n s.c], .agg #[.slice t.ao t.n t.c]] w fun e w' =>
      e = .returned (.tuple #[.agg #[.slice none 0 0], .agg #[.slice none 0 0], .int .i64 5]) ∧ Below w.heap.size w w' := by
  rw [h.zero_iff.1 rfl]
  exact div_zero t.ao t.c

theorem bits_nil {w : World} {s : Sl} (h : NatS w s 0) (hn : s.n ≤ 1000000000000) :
    Calls Try.prog 23 #[.agg #[.slice s.ao s.n s.c]] w fun e w' => e = .returned (.int .i64 0) ∧ Below w.heap.size w w' := bits_spec h hn

/-- Cmp, as an order. -/
theorem cmp_any {w : World} {s t : Sl} {x y : Nat} (h : NatS w s x) (h' : NatS w t y) (hn : s.n ≤ 1000000000000) (hm : t.n ≤ 1000000000000) :
    Calls Try.prog 26 #[.agg #[.slice s.ao s.n s.c], .agg #[.slice t.ao t.n t.c]] w fun e w' =>
      ∃ c : Int, e = .returned (.int .i64 c) ∧ (x = y → 0 = c) ∧ (x ≤ y → c ≤ 0) ∧ (x < y → c < 0) ∧ Below w.heap.size w w' := by
  refine (cmp_spec h h' hn hm).mono ?_
  rintro e w' ⟨rfl, hb⟩
  refine ⟨_, rfl, fun e => ?_, fun hle => ?_, fun hlt => ?_, hb⟩
  · subst e; exact (cmpN_eq x).symm
  · rcases Nat.lt_or_eq_of_le hle with h | h
    · rw [cmpN_lt h]; omega
    · subst h; rw [cmpN_eq]; omega
  · rw [cmpN_lt hlt]; omega

end Go.Proofs.Ytahfnbbdhhehhaa
