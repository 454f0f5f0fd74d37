/- Both Parses, each in one contract. -/
import Derived.Test.YtnjohlimjbmkgaaProg
import Derived.Test.YtnjohlimjbmkgaaNatP
import Derived.Test.YtnjohlimjbmkgaaRefB
namespace Go.Proofs.Ytnjohlimjbmkgaa
open Go.RowKit

/-- Is a text read? -/
def good (l : List Nat) : Bool := !l.isEmpty && decide (l.length ≤ 4096) && l.all (fun d => decide (48 ≤ d) && decide (d ≤ 57)) && (decide (l.length ≤ 1) || !(l.headD 0 == 48))

theorem good_iff (l : List Nat) : good l = true ↔ Good l := by
  unfold good Good Digs
  cases l with
  | nil => simp
  | cons a l =>
    simp only [Bool.and_eq_true, Bool.or_eq_true, decide_eq_true_eq, List.all_eq_true, List.isEmpty_cons, Bool.not_false, Bool.not_eq_true', beq_eq_false_iff_ne, List.headD_cons, List.head?_cons, ne_eq, Option.some.injEq, reduceCtorEq, not_false_eq_true, true_and, and_assoc]
    constructor
    · rintro ⟨h1, h2, h3⟩
      exact ⟨h1, h2, fun h => h3.resolve_left (by omega)⟩
    · rintro ⟨h1, h2, h3⟩
      refine ⟨h1, h2, ?_⟩
      by_cases h : (a :: l).length ≤ 1
      · exact .inl h
      · exact .inr (h3 (by omega))

/-- The error of a text. -/
def perr (s : ByteArray) : Int := if 4096 < s.size then 2 else if good (bs s) then 0 else 3
/-- The number of a text. -/
def pval (s : ByteArray) : Nat := if good (bs s) then dval (bs s) else 0

theorem good_size {s : ByteArray} (h : good (bs s) = true) : s.size ≤ 4096 := by
  have := ((good_iff _).1 h).2.1
  rwa [bs_size] at this

theorem perr_long {s : ByteArray} (h : 4096 < s.size) : perr s = 2 ∧ pval s = 0 := by
  have : ¬ good (bs s) = true := fun hg => by have := good_size hg; omega
  unfold perr pval
  rw [if_pos h, if_neg this]
  exact ⟨rfl, rfl⟩
theorem perr_bad {s : ByteArray} (h : s.size ≤ 4096) (hg : ¬ Good (bs s)) : perr s = 3 ∧ pval s = 0 := by
  have : ¬ good (bs s) = true := fun h => hg ((good_iff _).1 h)
  unfold perr pval
  rw [if_neg (by omega), if_neg this, if_neg this]
  exact ⟨rfl, rfl⟩
theorem perr_ok {s : ByteArray} (hg : Good (bs s)) : perr s = 0 ∧ pval s = dval (bs s) := by
  have hg' := (good_iff _).2 hg
  have := good_size hg'
  unfold perr pval
  rw [if_neg (by omega), if_pos hg', if_pos hg']
  exact ⟨rfl, rfl⟩

/-- What a text is. -/
theorem parse_cases (s : ByteArray) : (4096 < s.size) ∨ (s.size = 0 ∧ ¬ Good (bs s)) ∨ (∃ h : 1 < s.size, s.size ≤ 4096 ∧ (s[0]'(by omega)).toNat = 48 ∧ ¬ Good (bs s)) ∨
    (∃ h : 0 < s.size, s.size ≤ 4096 ∧ (s.size = 1 ∨ (s[0]'h).toNat ≠ 48) ∧ (Digs (bs s) → Good (bs s))) := by
  by_cases h1 : 4096 < s.size
  · exact .inl h1
  · by_cases h2 : s.size = 0
    · refine .inr (.inl ⟨h2, fun hg => hg.1 (List.eq_nil_of_length_eq_zero (by rw [bs_size]; exact h2))⟩)
    · have hp : 0 < s.size := by omega
      have hh : (bs s).head? = some (s[0]'hp).toNat := by
        have := bs_dg s 0 hp
        rw [List.head?_eq_getElem?, List.getElem?_eq_getElem (by rw [bs_size]; exact hp), ← this, dg_of (by rw [bs_size]; exact hp)]
      by_cases h3 : s.size = 1 ∨ (s[0]'hp).toNat ≠ 48
      · refine .inr (.inr (.inr ⟨hp, by omega, h3, fun hd => ⟨fun e => ?_, by rw [bs_size]; omega, hd, fun hl => ?_⟩⟩))
        · have := bs_size s
          rw [e] at this
          simp at this
          omega
        · rw [bs_size] at hl
          rw [hh]
          intro e
          injection e with e
          omega
      · refine .inr (.inr (.inl ⟨by omega, by omega, by omega, fun hg => ?_⟩))
        have := hg.2.2.2 (by rw [bs_size]; omega)
        rw [hh] at this
        exact this (congrArg some (by omega))

/-- nat.Parse. -/
theorem parse_spec (s : ByteArray) (w : World) (h : s.size ≤ 9223372036854775807) :
    Calls Try.prog 78 #[.string s] w fun e w' =>
      ∃ u : Sl, e = .returned (.tuple #[.agg #[.slice u.ao u.n u.c], .int .i64 (perr s)]) ∧ NatS w' u (pval s) ∧ u.n ≤ s.size ∧ u.n ≤ 4096 ∧ Below w.heap.size w w' := by
  have hnil : ∀ w', NatS w' ⟨none, 0, 0⟩ 0 := fun w' => NatS.nil w' _ _ (by omega)
  rcases parse_cases s with h1 | ⟨h1, h2⟩ | ⟨h1, h2, h3, h4⟩ | ⟨h1, h2, h3, h4⟩
  · obtain ⟨e1, e2⟩ := perr_long h1
    rw [e1, e2]
    refine (parse_long s w h1 h).mono ?_
    rintro e w' ⟨rfl, hb⟩
    exact ⟨⟨none, 0, 0⟩, rfl, hnil _, Nat.zero_le _, Nat.zero_le _, hb⟩
  · obtain ⟨e1, e2⟩ := perr_bad (by omega) h2
    rw [e1, e2]
    refine (parse_empty s w h1).mono ?_
    rintro e w' ⟨rfl, hb⟩
    exact ⟨⟨none, 0, 0⟩, rfl, hnil _, Nat.zero_le _, Nat.zero_le _, hb⟩
  · obtain ⟨e1, e2⟩ := perr_bad (by omega) h4
    rw [e1, e2]
    refine (parse_zero s w h1 h2 h3).mono ?_
    rintro e w' ⟨rfl, hb⟩
    exact ⟨⟨none, 0, 0⟩, rfl, hnil _, Nat.zero_le _, Nat.zero_le _, hb⟩
  · refine (parse_rest s w h1 h2 h3).mono ?_
    rintro e w' (⟨hd, u, rfl, hu, hun, hb⟩ | ⟨hd, rfl, hb⟩)
    · obtain ⟨e1, e2⟩ := perr_ok (h4 hd)
      rw [e1, e2]
      exact ⟨u, rfl, hu, hun, by omega, hb⟩
    · obtain ⟨e1, e2⟩ := perr_bad h2 (fun hg => hd hg.2.2.1)
      rw [e1, e2]
      exact ⟨⟨none, 0, 0⟩, rfl, hnil _, Nat.zero_le _, Nat.zero_le _, hb⟩

/-- The reference's Parse. -/
theorem rparse_spec (s : ByteArray) (w : World) (h : s.size ≤ 9223372036854775807) :
    Calls Try.prog 79 #[.string s] w fun e w' =>
      ∃ u : Sl, e = .returned (.tuple #[.agg #[.slice u.ao u.n u.c], .int .i64 (perr s)]) ∧ RefS w' u (pval s) ∧ u.n ≤ s.size ∧ u.n ≤ 4096 ∧ Below w.heap.size w w' := by
  have hnil : ∀ w', RefS w' ⟨none, 0, 0⟩ 0 := fun w' => RefS.nil w' _ _ (by omega)
  rcases parse_cases s with h1 | ⟨h1, h2⟩ | ⟨h1, h2, h3, h4⟩ | ⟨h1, h2, h3, h4⟩
  · obtain ⟨e1, e2⟩ := perr_long h1
    rw [e1, e2]
    refine (rparse_long s w h1 h).mono ?_
    rintro e w' ⟨rfl, hb⟩
    exact ⟨⟨none, 0, 0⟩, rfl, hnil _, Nat.zero_le _, Nat.zero_le _, hb⟩
  · obtain ⟨e1, e2⟩ := perr_bad (by omega) h2
    rw [e1, e2]
    refine (rparse_empty s w h1).mono ?_
    rintro e w' ⟨rfl, hb⟩
    exact ⟨⟨none, 0, 0⟩, rfl, hnil _, Nat.zero_le _, Nat.zero_le _, hb⟩
  · obtain ⟨e1, e2⟩ := perr_bad (by omega) h4
    rw [e1, e2]
    refine (rparse_zero s w h1 h2 h3).mono ?_
    rintro e w' ⟨rfl, hb⟩
    exact ⟨⟨none, 0, 0⟩, rfl, hnil _, Nat.zero_le _, Nat.zero_le _, hb⟩
  · refine (rparse_rest s w h1 h2 h3).mono ?_
    rintro e w' (⟨hd, u, rfl, hu, hun, hb⟩ | ⟨hd, rfl, hb⟩)
    · obtain ⟨e1, e2⟩ := perr_ok (h4 hd)
      rw [e1, e2]
      exact ⟨u, rfl, hu, hun, by omega, hb⟩
    · obtain ⟨e1, e2⟩ := perr_bad h2 (fun hg => hd hg.2.2.1)
      rw [e1, e2]
      exact ⟨⟨none, 0, 0⟩, rfl, hnil _, Nat.zero_le _, Nat.zero_le _, hb⟩

end Go.Proofs.Ytnjohlimjbmkgaa
