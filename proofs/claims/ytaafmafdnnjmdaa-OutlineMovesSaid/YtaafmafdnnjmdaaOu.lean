/- Paths of points: directions, corners. -/
import Derived.Test.YtaafmafdnnjmdaaMaths
set_option linter.unusedSimpArgs false
set_option linter.unusedVariables false
namespace Go.Proofs.Ytaafmafdnnjmdaa

/-- A point, or a direction. -/
structure Dp where
  x : Int
  y : Int
theorem Dp.eq_iff {a b : Dp} : a = b ↔ a.x = b.x ∧ a.y = b.y := by
  constructor
  · rintro rfl; exact ⟨rfl, rfl⟩
  · obtain ⟨a1, a2⟩ := a
    obtain ⟨b1, b2⟩ := b
    rintro ⟨h1, h2⟩
    simp only at h1 h2
    rw [h1, h2]
instance : DecidableEq Dp := fun a b => if h : a.x = b.x ∧ a.y = b.y then isTrue (Dp.eq_iff.2 h) else isFalse (fun e => h (Dp.eq_iff.1 e))
/-- What divides both parts. -/
def gcdD (v : Dp) : Int := ((Nat.gcd v.x.natAbs v.y.natAbs : Nat) : Int)
def dirOf (v : Dp) : Dp := ⟨v.x / gcdD v, v.y / gcdD v⟩
def wayv (p q : Dp) : Dp := dirOf ⟨q.x - p.x, q.y - p.y⟩

theorem gcdD_dvd (v : Dp) : gcdD v ∣ v.x ∧ gcdD v ∣ v.y := by
  unfold gcdD
  exact ⟨Int.ofNat_dvd_left.2 (Nat.gcd_dvd_left _ _), Int.ofNat_dvd_left.2 (Nat.gcd_dvd_right _ _)⟩
theorem gcdD_pos {v : Dp} (h : v.x ≠ 0 ∨ v.y ≠ 0) : 0 < gcdD v := by
  unfold gcdD
  have : 0 < Nat.gcd v.x.natAbs v.y.natAbs := by
    rcases h with h | h
    · exact Nat.gcd_pos_of_pos_left _ (by omega)
    · exact Nat.gcd_pos_of_pos_right _ (by omega)
  omega
theorem dir_mul (v : Dp) : v.x = gcdD v * (dirOf v).x ∧ v.y = gcdD v * (dirOf v).y :=
  ⟨(Int.mul_ediv_cancel' (gcdD_dvd v).1).symm, (Int.mul_ediv_cancel' (gcdD_dvd v).2).symm⟩
theorem dir_scale (k : Int) (hk : 0 < k) (v : Dp) : dirOf ⟨k * v.x, k * v.y⟩ = dirOf v := by
  have hg : gcdD ⟨k * v.x, k * v.y⟩ = k * gcdD v := by
    unfold gcdD
    simp only [Int.natAbs_mul, Nat.gcd_mul_left, Int.natCast_mul]
    rw [show ((k.natAbs : Nat) : Int) = k by omega]
  unfold dirOf
  simp only [hg, Int.mul_ediv_mul_of_pos _ _ hk]
theorem dir_nz {v : Dp} (h : v.x ≠ 0 ∨ v.y ≠ 0) : (dirOf v).x ≠ 0 ∨ (dirOf v).y ≠ 0 := by
  obtain ⟨h1, h2⟩ := dir_mul v
  rcases h with h | h
  · exact .inl fun e => h (by rw [h1, e, Int.mul_zero])
  · exact .inr fun e => h (by rw [h2, e, Int.mul_zero])
theorem dir_dir (v : Dp) (h : v.x ≠ 0 ∨ v.y ≠ 0) : dirOf (dirOf v) = dirOf v := by
  have h1 := dir_mul v
  have h2 := dir_scale (gcdD v) (gcdD_pos h) (dirOf v)
  rw [← h1.1, ← h1.2] at h2
  exact h2.symm
theorem ne_sub {p q : Dp} (h : p ≠ q) : (⟨q.x - p.x, q.y - p.y⟩ : Dp).x ≠ 0 ∨ (⟨q.x - p.x, q.y - p.y⟩ : Dp).y ≠ 0 := by
  simp only
  by_cases hx : q.x - p.x = 0
  · by_cases hy : q.y - p.y = 0
    · exact absurd (Dp.eq_iff.2 ⟨by omega, by omega⟩) h
    · exact .inr hy
  · exact .inl hx
/-- Two steps one way are one step that way. -/
theorem way_join {p q r : Dp} (h1 : p ≠ q) (h2 : q ≠ r) (h : wayv p q = wayv q r) : p ≠ r ∧ wayv p r = wayv p q := by
  unfold wayv at h ⊢
  have n1 := ne_sub h1
  have n2 := ne_sub h2
  obtain ⟨a1, a2⟩ := dir_mul ⟨q.x - p.x, q.y - p.y⟩
  obtain ⟨b1, b2⟩ := dir_mul ⟨r.x - q.x, r.y - q.y⟩
  have ga := gcdD_pos n1
  have gb := gcdD_pos n2
  have hd := dir_nz n1
  have hdd := dir_dir _ n1
  rw [← h] at b1 b2
  generalize dirOf ⟨q.x - p.x, q.y - p.y⟩ = d at *
  generalize gcdD ⟨q.x - p.x, q.y - p.y⟩ = a at *
  generalize gcdD ⟨r.x - q.x, r.y - q.y⟩ = b at *
  simp only at a1 a2 b1 b2
  have e1 : r.x - p.x = (a + b) * d.x := by rw [Int.add_mul, ← a1, ← b1]; omega
  have e2 : r.y - p.y = (a + b) * d.y := by rw [Int.add_mul, ← a2, ← b2]; omega
  constructor
  · rintro rfl
    rw [Int.sub_self] at e1 e2
    have hab : a + b ≠ 0 := by omega
    rcases hd with hd | hd
    · exact (Int.mul_ne_zero hab hd) e1.symm
    · exact (Int.mul_ne_zero hab hd) e2.symm
  · rw [e1, e2, dir_scale _ (by omega), hdd]

/-- The corners so far, the last first, and the ways between them; one more point. -/
def push (s : List Dp × List Dp) (p : Dp) : List Dp × List Dp :=
  match s with
  | ([], _) => ([p], [])
  | (l :: r, w) => if l = p then (l :: r, w) else if w.head? = some (wayv l p) then (p :: r, w) else (p :: l :: r, wayv l p :: w)
def corn (pts : List Dp) : List Dp × List Dp := pts.foldl push ([], [])
/-- The ways are those between the corners; none goes on straight. -/
def CornOk : List Dp → List Dp → Prop
  | [], w => w = []
  | [_], w => w = []
  | b :: a :: r, w => ∃ d v, w = d :: v ∧ a ≠ b ∧ d = wayv a b ∧ v.head? ≠ some d ∧ CornOk (a :: r) v
theorem CornOk.push {s : List Dp × List Dp} (h : CornOk s.1 s.2) (p : Dp) : CornOk (push s p).1 (push s p).2 := by
  obtain ⟨R, w⟩ := s
  match R, h with
  | [], h => exact rfl
  | [l], h =>
    simp only [CornOk] at h
    subst h
    simp only [Go.Proofs.Ytaafmafdnnjmdaa.push]
    split
    · exact rfl
    · rename_i hl
      simp only [List.head?_nil, reduceCtorEq, if_false]
      exact ⟨wayv l p, [], rfl, hl, rfl, by simp, rfl⟩
  | l :: a :: r, ⟨d, v, hw, hal, hd, hv, hok⟩ =>
    simp only at hw
    subst hw
    simp only [Go.Proofs.Ytaafmafdnnjmdaa.push]
    split
    · exact ⟨d, v, rfl, hal, hd, hv, hok⟩
    · rename_i hl
      simp only [List.head?_cons, Option.some.injEq]
      split
      · rename_i he
        have hj := way_join hal hl (by rw [← hd, he])
        exact ⟨d, v, rfl, hj.1, by rw [hj.2, hd], hv, hok⟩
      · rename_i he
        exact ⟨wayv l p, d :: v, rfl, hl, rfl, by simpa using he, d, v, rfl, hal, hd, hv, hok⟩
theorem corn_ok : ∀ (pts : List Dp) (s : List Dp × List Dp), CornOk s.1 s.2 → CornOk (pts.foldl push s).1 (pts.foldl push s).2
  | [], _, h => h
  | p :: r, s, h => corn_ok r (push s p) (h.push p)
theorem CornOk.len : ∀ {R w : List Dp}, CornOk R w → R.length = if R = [] then 0 else w.length + 1
  | [], w, h => by simp
  | [a], w, h => by simp only [CornOk] at h; subst h; simp
  | b :: a :: r, w, ⟨d, v, hw, _, _, _, h⟩ => by
    subst hw
    have := h.len
    simp at this ⊢
    omega
/-- What the walk does where the way goes on straight: one corner back, the same way again. -/
theorem CornOk.back {l a : Dp} {r w : List Dp} {p : Dp} (h : CornOk (l :: a :: r) w) (hl : l ≠ p) (hw : w.head? = some (wayv l p)) : a ≠ p ∧ wayv a p = wayv l p ∧ ∃ v, w = wayv l p :: v ∧ v.head? ≠ some (wayv l p) := by
  obtain ⟨d, v, rfl, hal, hd, hv, _⟩ := h
  simp only [List.head?_cons, Option.some.injEq] at hw
  subst hw
  have hj := way_join hal hl (by rw [← hd])
  exact ⟨hj.1, by rw [hj.2, hd], v, rfl, hv⟩

/-- Does a path turn back? -/
def backs : List Dp → Bool
  | e :: d :: r => decide (e = ⟨-d.x, -d.y⟩) || backs (d :: r)
  | _ => false
def outB (n : Int) : Bool := decide (n < -2147483648) || decide (2147483647 < n)
def outP (p : Dp) : Bool := outB p.x || outB p.y
def argBad (width kind bg en : Int) : Bool := !(decide (kind = 0) || decide (kind = 1) || decide (kind = 2) || decide (kind = 4)) || decide (width < 1) || decide (2147483647 < width) || decide (bg < -2147483647) || decide (2147483647 < bg) || decide (en < -2147483647) || decide (2147483647 < en)
/-- By which error a path is refused; 0: by none. -/
def oerr (pts : List Dp) (width kind bg en : Int) : Int :=
  if 8191 < pts.length then 2 else if argBad width kind bg en = true then 1 else if pts.any outP = true then 26 else if (corn pts).1.length < 2 then 7 else if backs (corn pts).2 = true then 25 else 0
end Go.Proofs.Ytaafmafdnnjmdaa
