
/- Paths of points: a path that is twice as great. -/
import Derived.Test.YtaafmafdnnjmdaaPf
set_option linter.unusedSimpArgs false
set_option linter.unusedVariables false
namespace Go.Proofs.Ytaafmafdnnjmdaa

def dblD (p : Dp) : Dp := ⟨2 * p.x, 2 * p.y⟩
def dblP (p : Sn × Sn) : Sn × Sn := (p.1.add p.1, p.2.add p.2)
def Pa.dbl (q : Pa) : Pa := ⟨q.d, q.a + q.a, q.b + q.b, q.c + q.c, q.e + q.e⟩
theorem unit_dbl (d : Dp) (q : Rat) : unitP d (q + q) = (unitP d q).dbl := by
  unfold unitP Pa.dbl
  simp only [Rat.add_mul, Rat.zero_add]
theorem slant_dbl (d : Dp) (q : Rat) : slantP d (q + q) = (slantP d q).dbl := by
  unfold slantP Pa.dbl
  simp only [Rat.add_mul, Rat.zero_add]
theorem fold_dblx (m n : Int) : ∀ (l : List Pa) (S : Sn), (l.map Pa.dbl).foldl (fun S q => S.add (q.sx m n)) (S.add S) = (l.foldl (fun S q => S.add (q.sx m n)) S).add (l.foldl (fun S q => S.add (q.sx m n)) S)
  | [], S => rfl
  | q :: r, S => by
    simp only [List.map_cons, List.foldl_cons]
    rw [show (S.add S).add (q.dbl.sx m n) = (S.add (q.sx m n)).add (S.add (q.sx m n)) by
      refine Sn.ext' rfl rfl ?_ ?_ ?_ ?_ <;> simp only [Sn.add, Pa.sx, Pa.dbl] <;> grind]
    exact fold_dblx m n r _
theorem fold_dbly (m n : Int) : ∀ (l : List Pa) (S : Sn), (l.map Pa.dbl).foldl (fun S q => S.add (q.sy m n)) (S.add S) = (l.foldl (fun S q => S.add (q.sy m n)) S).add (l.foldl (fun S q => S.add (q.sy m n)) S)
  | [], S => rfl
  | q :: r, S => by
    simp only [List.map_cons, List.foldl_cons]
    rw [show (S.add S).add (q.dbl.sy m n) = (S.add (q.sy m n)).add (S.add (q.sy m n)) by
      refine Sn.ext' rfl rfl ?_ ?_ ?_ ?_ <;> simp only [Sn.add, Pa.sy, Pa.dbl] <;> grind]
    exact fold_dbly m n r _
theorem two_cast (p : Int) : ((2 * p : Int) : Rat) = (p : Rat) + (p : Rat) := by
  rw [show 2 * p = p + p by omega, Rat.intCast_add]
theorem al_dbl (m n : Int) (p : Dp) (l : List Pa) : al m n (dblD p) (l.map Pa.dbl) = dblP (al m n p l) := by
  unfold al dblP alX alY
  simp only [dblD]
  rw [← fold_dblx, ← fold_dbly]
  congr 2 <;> (refine Sn.ext' rfl rfl ?_ ?_ ?_ ?_ <;> simp only [Sn.add, two_cast] <;> grind)
theorem miter_dbl (p d e : Dp) (h : Rat) : miterP (dblD p) d e (h + h) = dblP (miterP p d e h) := by
  unfold miterP
  simp only
  rw [← al_dbl]
  simp only [List.map_cons, List.map_nil, Pa.dbl, Rat.div_def, Rat.add_mul, Rat.zero_add]
theorem miters_dbl (h : Rat) : ∀ (c w : List Dp), miters (h + h) (c.map dblD) w = (miters h c w).map dblP
  | [], w => by simp [miters]
  | p :: c, [] => by simp [miters]
  | p :: c, [d] => by simp [miters]
  | p :: c, d :: e :: w => by
    simp only [List.map_cons, miters, miter_dbl]
    rw [miters_dbl h c (e :: w)]
theorem tip_dbl (p d : Dp) (h b : Rat) (r : Bool) : tipL (dblD p) d (h + h) (b + b) r = (tipL p d h b r).map dblP := by
  cases r <;> simp only [tipL, unit_dbl, slant_dbl, if_true, if_false, Bool.false_eq_true, List.map_cons, List.map_nil, List.nil_append, List.cons_append, ← al_dbl]
theorem getD_dbl (l : List Dp) (k : Nat) : (l.map dblD).getD k ⟨0, 0⟩ = dblD (l.getD k ⟨0, 0⟩) := by
  simp only [List.getD_eq_getElem?_getD, List.getElem?_map]
  cases l[k]? <;> rfl
theorem half_dbl (w : Int) : Rat.divInt (2 * w) 2 = Rat.divInt w 2 + Rat.divInt w 2 := by
  rw [Rat.divInt_eq_div, Rat.divInt_eq_div, two_cast, Rat.div_def, Rat.div_def, Rat.add_mul]
theorem ends_dbl (kind bg en : Int) (h : Rat) : endsOf kind (2 * bg) (2 * en) (h + h) = ((endsOf kind bg en h).1 + (endsOf kind bg en h).1, (endsOf kind bg en h).2 + (endsOf kind bg en h).2) := by
  unfold endsOf
  split
  · rfl
  · split
    · simp only [two_cast]
    · simp only [Rat.zero_add]
theorem places_dbl (c w : List Dp) (width kind bg en : Int) : places (c.map dblD) w (2 * width) kind (2 * bg) (2 * en) = (places c w width kind bg en).map dblP := by
  unfold places
  simp only [half_dbl, ends_dbl, getD_dbl, List.length_map, tip_dbl, List.map_append, List.map_drop, List.map_take, List.map_reverse, ← List.map_tail, miters_dbl]
  rw [show -(Rat.divInt width 2 + Rat.divInt width 2) = -Rat.divInt width 2 + -Rat.divInt width 2 by grind, miters_dbl]
theorem dblD_inj {p q : Dp} : dblD p = dblD q ↔ p = q := by
  constructor
  · intro h
    have h := Dp.eq_iff.1 h
    simp only [dblD] at h
    exact Dp.eq_iff.2 ⟨by omega, by omega⟩
  · rintro rfl; rfl
theorem way_dbl (p q : Dp) : wayv (dblD p) (dblD q) = wayv p q := by
  unfold wayv
  simp only [dblD]
  have := dir_scale 2 (by decide) ⟨q.x - p.x, q.y - p.y⟩
  simp only at this
  rw [← this]
  congr 2 <;> omega
theorem push_dbl (s : List Dp × List Dp) (p : Dp) : push (s.1.map dblD, s.2) (dblD p) = ((push s p).1.map dblD, (push s p).2) := by
  obtain ⟨R, w⟩ := s
  cases R with
  | nil => rfl
  | cons l r =>
    simp only [List.map_cons, push, dblD_inj, way_dbl]
    split
    · rfl
    · split <;> rfl
theorem corn_dbl' : ∀ (pts : List Dp) (s : List Dp × List Dp), (pts.map dblD).foldl push (s.1.map dblD, s.2) = ((pts.foldl push s).1.map dblD, (pts.foldl push s).2)
  | [], s => rfl
  | p :: r, s => by
    simp only [List.map_cons, List.foldl_cons, push_dbl]
    exact corn_dbl' r (push s p)
theorem corn_dbl (pts : List Dp) : corn (pts.map dblD) = ((corn pts).1.map dblD, (corn pts).2) := corn_dbl' pts ([], [])
theorem oerr_zero {pts : List Dp} {width kind bg en : Int} (h : oerr pts width kind bg en = 0) : pts.length ≤ 8191 ∧ argBad width kind bg en = false ∧ pts.any outP = false ∧ 2 ≤ (corn pts).1.length ∧ backs (corn pts).2 = false := by
  unfold oerr at h
  split at h
  · simp at h
  · split at h
    · simp at h
    · split at h
      · simp at h
      · split at h
        · simp at h
        · split at h
          · simp at h
          · refine ⟨by omega, by simp_all, by simp_all, by omega, by simp_all⟩
theorem oerr_zero_of {pts : List Dp} {width kind bg en : Int} (h : pts.length ≤ 8191 ∧ argBad width kind bg en = false ∧ pts.any outP = false ∧ 2 ≤ (corn pts).1.length ∧ backs (corn pts).2 = false) : oerr pts width kind bg en = 0 := by
  obtain ⟨h1, h2, h3, h4, h5⟩ := h
  unfold oerr
  rw [if_neg (by omega), h2, if_neg (by decide), h3, if_neg (by decide), if_neg (by omega), h5, if_neg (by decide)]
theorem argBad_good {width kind bg en : Int} : argBad width kind bg en = false ↔ (kind = 0 ∨ kind = 1 ∨ kind = 2 ∨ kind = 4) ∧ 1 ≤ width ∧ width ≤ 2147483647 ∧ -2147483647 ≤ bg ∧ bg ≤ 2147483647 ∧ -2147483647 ≤ en ∧ en ≤ 2147483647 := by
  simp only [argBad, Bool.or_eq_false_iff, Bool.not_eq_false', Bool.or_eq_true, decide_eq_true_eq, decide_eq_false_iff_not]
  omega
theorem out_small {k : Int} {p : Dp} (h : inD k p) (hk : k ≤ 2147483647) : outP p = false := by
  unfold inD at h
  simp only [outP, outB, Bool.or_eq_false_iff, decide_eq_false_iff_not]
  omega
theorem any_small {k : Int} {pts : List Dp} (h : ∀ p ∈ pts, inD k p) (hk : k ≤ 2147483647) : pts.any outP = false := by
  cases ho : pts.any outP with
  | false => rfl
  | true =>
    obtain ⟨p, hp, h2⟩ := List.any_eq_true.1 ho
    rw [out_small (h p hp) hk] at h2
    simp at h2
theorem oerr_dbl {pts : List Dp} {width kind bg en : Int} (h : oerr pts width kind bg en = 0) (hs : ∀ p ∈ pts, inD 1000000 p) (hw : width ≤ 1000000) (hb : -1000000 ≤ bg ∧ bg ≤ 1000000) (he : -1000000 ≤ en ∧ en ≤ 1000000) :
    oerr (pts.map dblD) (2 * width) kind (2 * bg) (2 * en) = 0 := by
  obtain ⟨h1, h2, h3, h4, h5⟩ := oerr_zero h
  rw [argBad_good] at h2
  refine oerr_zero_of ⟨by simpa using h1, argBad_good.2 (by omega), any_small (k := 2000000) (fun p hp => ?_) (by decide), by rw [corn_dbl]; simpa using h4, by rw [corn_dbl]; exact h5⟩
  obtain ⟨q, hq, rfl⟩ := List.mem_map.1 hp
  have := hs q hq
  unfold inD at this ⊢
  simp only [dblD]
  omega
end Go.Proofs.Ytaafmafdnnjmdaa
namespace Go.Proofs.Ytaafmafdnnjmdaa
theorem miters_le (h : Rat) : ∀ (c w : List Dp), (miters h c w).length ≤ w.length
  | [], w => by simp [miters]
  | p :: c, [] => by simp [miters]
  | p :: c, [d] => by simp [miters]
  | p :: c, d :: e :: w => by
    have := miters_le h c (e :: w)
    simp only [miters, List.length_cons] at *
    omega
theorem tip_le (p d : Dp) (h b : Rat) (r : Bool) : (tipL p d h b r).length ≤ 5 := by
  cases r <;> simp [tipL]
theorem places_le (c w : List Dp) (width kind bg en : Int) : (places c w width kind bg en).length ≤ 2 * w.length + 20 := by
  unfold places
  have h1 := miters_le (Rat.divInt width 2) c.tail w
  have h2 := miters_le (-Rat.divInt width 2) c.tail w
  have h3 := tip_le (c.getD 0 ⟨0, 0⟩) (negD (w.getD 0 ⟨0, 0⟩)) (Rat.divInt width 2) (endsOf kind bg en (Rat.divInt width 2)).1 (kind == 1)
  have h4 := tip_le (c.getD (c.length - 1) ⟨0, 0⟩) (w.getD (w.length - 1) ⟨0, 0⟩) (Rat.divInt width 2) (endsOf kind bg en (Rat.divInt width 2)).2 (kind == 1)
  simp only [List.length_append, List.length_reverse, List.length_drop, List.length_take]
  omega
theorem push_le (s : List Dp × List Dp) (p : Dp) : (push s p).2.length ≤ s.2.length + 1 := by
  obtain ⟨R, w⟩ := s
  cases R with
  | nil => simp [push]
  | cons l r =>
    simp only [push]
    split
    · simp
    · split <;> simp
theorem corn_le' : ∀ (pts : List Dp) (s : List Dp × List Dp), (pts.foldl push s).2.length ≤ s.2.length + pts.length
  | [], s => by simp
  | p :: r, s => by
    have := corn_le' r (push s p)
    have := push_le s p
    simp only [List.foldl_cons, List.length_cons]
    omega
theorem corn_le (pts : List Dp) : (corn pts).2.length ≤ pts.length := by
  have := corn_le' pts ([], [])
  simpa [corn] using this
end Go.Proofs.Ytaafmafdnnjmdaa
