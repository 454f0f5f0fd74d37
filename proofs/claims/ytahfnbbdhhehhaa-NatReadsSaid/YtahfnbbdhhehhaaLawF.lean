/- For the laws: contracts in which no case is left out. -/
import Derived.Test.YtahfnbbdhhehhaaLawE
namespace Go.Proofs.Ytahfnbbdhhehhaa
open Go.RowKit

/-- A rest, where 0 divides nothing. -/
def rem0 (x y : Nat) : Nat := if y = 0 then 0 else x % y

theorem div_all {w : World} {s t : Sl} {x y : Nat} (h : NatS w s x) (h' : NatS w t y) (hn : s.n ≤ 100000000000) (hm : t.n ≤ 100000000000) :
    Calls Try.prog 31 #[.agg #[.slice s.ao s.n s.c], .agg #[.slice t.ao t.n t.c]] w fun e w' =>
      ∃ (u v : Sl) (er : Int), e = .returned (.tuple #[.agg #[.slice u.ao u.n u.c], .agg #[.slice v.ao v.n v.c], .int .i64 er]) ∧ NatS w' u (x / y) ∧ NatS w' v (rem0 x y) ∧ u.n ≤ s.n ∧ v.n ≤ s.n ∧ Below w.heap.size w w' := by
  by_cases hy : y = 0
  · subst hy
    refine (div_nil h').mono ?_
    rintro e w' ⟨rfl, hb⟩
    rw [Nat.div_zero]
    exact ⟨⟨none, 0, 0⟩, ⟨none, 0, 0⟩, 5, rfl, NatS.nil _ _ _ (by omega), NatS.nil _ _ _ (by omega), Nat.zero_le _, Nat.zero_le _, hb⟩
  · refine (div_spec h h' hn hm (by omega)).mono ?_
    rintro e w' ⟨u, v, rfl, hu, hv, h1, h2, _, hb⟩
    refine ⟨u, v, 0, rfl, hu, ?_, h1, h2, hb⟩
    unfold rem0
    rw [if_neg hy]
    exact hv

theorem sub_all {w : World} {s t : Sl} {x y : Nat} (h : NatS w s x) (h' : NatS w t y) (hn : s.n ≤ 1000000000000) (hm : t.n ≤ 1000000000000) :
    Calls Try.prog 41 #[.agg #[.slice s.ao s.n s.c], .agg #[.slice t.ao t.n t.c]] w fun e w' => (∃ v, e = .returned v) ∧ Below w.heap.size w w' := by
  rcases Nat.lt_or_ge x y with hxy | hxy
  · refine (sub_lt h h' hn hm hxy).mono ?_
    rintro e w' ⟨rfl, hb⟩
    exact ⟨⟨_, rfl⟩, hb⟩
  · refine (sub_ge h h' hn hm hxy).mono ?_
    rintro e w' ⟨u, rfl, _, _, hb⟩
    exact ⟨⟨_, rfl⟩, hb⟩

theorem up_all {w : World} {s : Sl} {x : Nat} (k : Int) (h : NatS w s x) (hn : s.n ≤ 1000000000000) :
    Calls Try.prog 33 #[.agg #[.slice s.ao s.n s.c], .int .i64 k] w fun e w' =>
      ∃ (u : Sl) (er : Int), e = .returned (.tuple #[.agg #[.slice u.ao u.n u.c], .int .i64 er]) ∧ Below w.heap.size w w' := by
  by_cases hk : k < 0 ∨ 65536 < k
  · refine (up_err s.ao s.n s.c w k hk).mono ?_
    rintro e w' ⟨rfl, hb⟩
    exact ⟨⟨none, 0, 0⟩, 1, rfl, hb⟩
  · obtain ⟨K, rfl⟩ : ∃ K : Nat, k = K := ⟨k.toNat, by omega⟩
    refine (up_spec K h hn (by omega)).mono ?_
    rintro e w' ⟨u, rfl, _, _, hb⟩
    exact ⟨u, 0, rfl, hb⟩

theorem down_all {w : World} {s : Sl} {x : Nat} (k : Int) (h : NatS w s x) (hn : s.n ≤ 1000000000000) :
    Calls Try.prog 34 #[.agg #[.slice s.ao s.n s.c], .int .i64 k] w fun e w' =>
      ∃ (u : Sl) (er : Int), e = .returned (.tuple #[.agg #[.slice u.ao u.n u.c], .int .i64 er]) ∧ Below w.heap.size w w' := by
  by_cases hk : k < 0 ∨ 65536 < k
  · refine (down_err s.ao s.n s.c w k hk).mono ?_
    rintro e w' ⟨rfl, hb⟩
    exact ⟨⟨none, 0, 0⟩, 1, rfl, hb⟩
  · obtain ⟨K, rfl⟩ : ∃ K : Nat, k = K := ⟨k.toNat, by omega⟩
    refine (down_spec K h hn (by omega)).mono ?_
    rintro e w' ⟨u, rfl, _, _, hb⟩
    exact ⟨u, 0, rfl, hb⟩

theorem root_all {w : World} {s : Sl} {x : Nat} (h : NatS w s x) (hn : s.n ≤ 2000) :
    Calls Try.prog 35 #[.agg #[.slice s.ao s.n s.c]] w fun e w' => (∃ v, e = .returned v) ∧ Below w.heap.size w w' := by
  refine (root_spec h hn).mono ?_
  rintro e w' ⟨u, v, r, rfl, _, _, _, _, _, _, hb⟩
  exact ⟨⟨_, rfl⟩, hb⟩

end Go.Proofs.Ytahfnbbdhhehhaa
