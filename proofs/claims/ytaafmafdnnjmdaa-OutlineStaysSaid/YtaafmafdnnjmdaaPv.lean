
/- Paths of points: points that change nothing. -/
import Derived.Test.YtaafmafdnnjmdaaPu
set_option linter.unusedSimpArgs false
set_option linter.unusedVariables false
namespace Go.Proofs.Ytaafmafdnnjmdaa

theorem push_head (s : List Dp × List Dp) (p : Dp) : ∃ r w, push s p = (p :: r, w) := by
  obtain ⟨R, w⟩ := s
  cases R with
  | nil => exact ⟨_, _, rfl⟩
  | cons l r =>
    simp only [push]
    split
    · rename_i h
      subst h
      exact ⟨_, _, rfl⟩
    · split <;> exact ⟨_, _, rfl⟩
/-- A point like the one ahead changes nothing. -/
theorem push_same (s : List Dp × List Dp) (p : Dp) : push (push s p) p = push s p := by
  obtain ⟨r, w, h⟩ := push_head s p
  rw [h]
  simp only [push, if_true]
def midD (p q : Dp) : Dp := ⟨q.x + p.x, q.y + p.y⟩
theorem mid_a (p q : Dp) : (dblD p = midD p q ↔ p = q) ∧ (midD p q = dblD q ↔ p = q) := by
  simp only [Dp.eq_iff, dblD, midD]
  constructor <;> (constructor <;> (intro h; omega))
theorem mid_way (p q : Dp) : wayv (dblD p) (midD p q) = wayv p q ∧ wayv (midD p q) (dblD q) = wayv p q := by
  unfold wayv
  simp only [dblD, midD]
  constructor <;> (congr 2 <;> omega)
/-- A middle between two points changes nothing. -/
theorem push_mid (s : List Dp × List Dp) (p q : Dp) : push (push (push s (dblD p)) (midD p q)) (dblD q) = push (push s (dblD p)) (dblD q) := by
  obtain ⟨r, w, h⟩ := push_head s (dblD p)
  rw [h]
  by_cases hpq : p = q
  · have h1 := (mid_a p q).1.2 hpq
    rw [← h1]
    simp only [push, if_true]
  · have h1 : ¬ dblD p = midD p q := fun e => hpq ((mid_a p q).1.1 e)
    have h2 : ¬ midD p q = dblD q := fun e => hpq ((mid_a p q).2.1 e)
    have h3 : ¬ dblD p = dblD q := fun e => hpq (dblD_inj.1 e)
    obtain ⟨e1, e2⟩ := mid_way p q
    have e3 := way_dbl p q
    by_cases hw : w.head? = some (wayv p q)
    · simp only [push, if_neg h1, if_neg h3, e1, e3, if_pos hw, if_neg h2, e2]
    · simp only [push, if_neg h1, if_neg h3, e1, e3, if_neg hw, if_neg h2, e2, List.head?_cons, if_true]
theorem corn_snoc (l : List Dp) (p : Dp) : corn (l ++ [p]) = push (corn l) p := by
  simp only [corn, List.foldl_append, List.foldl_cons, List.foldl_nil]
theorem corn_take {ps : List Dp} {i : Nat} {p : Dp} (h : ps[i]? = some p) : corn (ps.take (i + 1)) = push (corn (ps.take i)) p := by
  rw [take_snoc h, corn_snoc]
theorem corn_taked {ps : List Dp} {i : Nat} {p : Dp} (h : ps[i]? = some p) : corn ((ps.take (i + 1)).map dblD) = push (corn ((ps.take i).map dblD)) (dblD p) := by
  rw [take_snoc h, List.map_append, List.map_cons, List.map_nil, corn_snoc]
theorem oerr_like {ps q : List Dp} {k width kind bg en : Int} (h : oerr ps width kind bg en = 0) (hq : corn q = corn ps) (hl : q.length ≤ 8191) (hs : ∀ p ∈ q, inD k p) (hk : k ≤ 2147483647) : oerr q width kind bg en = 0 := by
  obtain ⟨h1, h2, h3, h4, h5⟩ := oerr_zero h
  exact oerr_zero_of ⟨hl, h2, any_small hs hk, by rw [hq]; exact h4, by rw [hq]; exact h5⟩
theorem snoc_dp (l : List Dp) (p : Dp) : (l ++ [p]).flatMap dpc = l.flatMap dpc ++ dpc p := by
  rw [List.flatMap_append]
  simp
theorem mem_snoc {l : List Dp} {p : Dp} {Q : Dp → Prop} (h : ∀ x ∈ l, Q x) (hp : Q p) : ∀ x ∈ l ++ [p], Q x := fun x hx => by
  rcases List.mem_append.1 hx with hx | hx
  · exact h x hx
  · simp only [List.mem_cons, List.not_mem_nil, or_false] at hx
    rw [hx]
    exact hp
end Go.Proofs.Ytaafmafdnnjmdaa
