/- Paths of points: corners and ways, the first first. -/
import Derived.Test.YtaafmafdnnjmdaaOz
set_option linter.unusedSimpArgs false
set_option linter.unusedVariables false
namespace Go.Proofs.Ytaafmafdnnjmdaa
open Go.RowKit Go.IntWalk

/-- Corners and ways, the first first. -/
structure FwOk (cs ws : List Dp) : Prop where
  len : cs.length = ws.length + 1
  way : ∀ (i : Nat) (a b d : Dp), cs[i]? = some a → cs[i + 1]? = some b → ws[i]? = some d → a ≠ b ∧ d = wayv a b
  turn : ∀ (i : Nat) (d e : Dp), ws[i]? = some d → ws[i + 1]? = some e → d ≠ e
theorem FwOk.snoc {cs ws : List Dp} {a b : Dp} (h : FwOk cs ws) (ha : cs.getLast? = some a) (hab : a ≠ b) (hw : ws.getLast? ≠ some (wayv a b)) : FwOk (cs ++ [b]) (ws ++ [wayv a b]) := by
  have hl := h.len
  rw [List.getLast?_eq_getElem?, hl, Nat.add_sub_cancel] at ha
  rw [List.getLast?_eq_getElem?] at hw
  refine ⟨by simp [hl], fun i x y d h1 h2 h3 => ?_, fun i d e h1 h2 => ?_⟩
  · by_cases hi : i < ws.length
    · rw [List.getElem?_append_left (by omega)] at h1 h2 h3
      exact h.way i x y d h1 h2 h3
    · have hi2 : i = ws.length := by
        have := (List.getElem?_eq_some_iff.1 h3).1
        simp at this
        omega
      subst hi2
      rw [List.getElem?_append_left (by omega), ha] at h1
      rw [List.getElem?_append_right (by omega), hl] at h2
      rw [List.getElem?_append_right (by omega)] at h3
      simp at h1 h2 h3
      subst h1 h2 h3
      exact ⟨hab, rfl⟩
  · by_cases hi : i + 1 < ws.length
    · rw [List.getElem?_append_left (by omega)] at h1 h2
      exact h.turn i d e h1 h2
    · have hi2 : i + 1 = ws.length := by
        have := (List.getElem?_eq_some_iff.1 h2).1
        simp at this
        omega
      rw [List.getElem?_append_left (by omega), show i = ws.length - 1 by omega] at h1
      rw [List.getElem?_append_right (by omega), hi2] at h2
      simp at h2
      subst h2
      rintro rfl
      exact hw h1
theorem fw_ok : ∀ {R U : List Dp}, CornOk R U → R ≠ [] → FwOk R.reverse U.reverse
  | [], _, _, h => absurd rfl h
  | [a], U, h, _ => by
    simp only [CornOk] at h
    subst h
    exact ⟨rfl, fun i x y d h1 h2 h3 => by simp at h3, fun i d e h1 h2 => by simp at h1⟩
  | b :: a :: r, U, ⟨d, v, hU, hab, hd, hv, hok⟩, _ => by
    subst hU hd
    have ih := fw_ok hok (by simp)
    rw [List.reverse_cons, List.reverse_cons (a := wayv a b)]
    exact ih.snoc (by rw [List.getLast?_reverse]; rfl) hab (by rw [List.getLast?_reverse]; exact hv)

theorem backs_iff : ∀ U : List Dp, backs U = true ↔ ∃ (i : Nat) (d e : Dp), U[i]? = some e ∧ U[i + 1]? = some d ∧ e = negD d
  | [] => by simp [backs]
  | [a] => by simp [backs]
  | e :: d :: r => by
    have ih := backs_iff (d :: r)
    simp only [backs, Bool.or_eq_true, decide_eq_true_eq, ih]
    constructor
    · rintro (h | ⟨i, x, y, h1, h2, h3⟩)
      · exact ⟨0, d, e, rfl, rfl, h⟩
      · exact ⟨i + 1, x, y, h1, h2, h3⟩
    · rintro ⟨i, x, y, h1, h2, h3⟩
      cases i with
      | zero =>
        simp at h1 h2
        subst h1 h2
        exact .inl h3
      | succ i => exact .inr ⟨i, x, y, h1, h2, h3⟩
theorem back_fw (U : List Dp) : backs U = true ↔ ∃ (i : Nat) (d e : Dp), U.reverse[i]? = some d ∧ U.reverse[i + 1]? = some e ∧ e = negD d := by
  rw [backs_iff]
  constructor
  · rintro ⟨i, d, e, h1, h2, h3⟩
    have hi := (List.getElem?_eq_some_iff.1 h2).1
    refine ⟨U.length - 2 - i, d, e, ?_, ?_, h3⟩
    · rw [List.getElem?_reverse (by omega), show U.length - 1 - (U.length - 2 - i) = i + 1 by omega, h2]
    · rw [List.getElem?_reverse (by omega), show U.length - 1 - (U.length - 2 - i + 1) = i by omega, h1]
  · rintro ⟨i, d, e, h1, h2, h3⟩
    have hi := (List.getElem?_eq_some_iff.1 h2).1
    simp only [List.length_reverse] at hi
    rw [List.getElem?_reverse (by omega)] at h1 h2
    refine ⟨U.length - 2 - i, d, e, ?_, ?_, h3⟩
    · rw [show U.length - 2 - i = U.length - 1 - (i + 1) by omega, h2]
    · rw [show U.length - 2 - i + 1 = U.length - 1 - i by omega, h1]

theorem prim_way {p q : Dp} (h : p ≠ q) : gcdD (wayv p q) = 1 := by
  have hv := ne_sub h
  unfold wayv
  generalize (⟨q.x - p.x, q.y - p.y⟩ : Dp) = v at *
  have h1 := dir_dir v hv
  have h2 := dir_mul (dirOf v)
  have h3 := dir_nz hv
  rw [h1] at h2
  rcases h3 with h3 | h3
  · exact Int.eq_one_of_mul_eq_self_left h3 h2.1.symm
  · exact Int.eq_one_of_mul_eq_self_left h3 h2.2.symm
theorem nz_prim {d : Dp} (h : gcdD d = 1) : d.x ≠ 0 ∨ d.y ≠ 0 := by
  by_cases hx : d.x = 0
  · by_cases hy : d.y = 0
    · unfold gcdD at h
      rw [hx, hy] at h
      simp at h
    · exact .inr hy
  · exact .inl hx
theorem sqD_ne {d : Dp} (h : d.x ≠ 0 ∨ d.y ≠ 0) : sqD d ≠ 0 := by
  unfold sqD
  have h1 : 0 ≤ d.x * d.x := by rcases Int.le_total 0 d.x with h | h; exact Int.mul_nonneg h h; exact Int.mul_nonneg_of_nonpos_of_nonpos h h
  have h2 : 0 ≤ d.y * d.y := by rcases Int.le_total 0 d.y with h | h; exact Int.mul_nonneg h h; exact Int.mul_nonneg_of_nonpos_of_nonpos h h
  rcases h with h | h
  · have : d.x * d.x ≠ 0 := Int.mul_ne_zero h h
    omega
  · have : d.y * d.y ≠ 0 := Int.mul_ne_zero h h
    omega
theorem way_in {p q : Dp} (hp : inD 2147483648 p) (hq : inD 2147483648 q) (h : p ≠ q) : inD 4294967296 (wayv p q) := by
  have hm := dir_mul ⟨q.x - p.x, q.y - p.y⟩
  have hg := gcdD_pos (ne_sub h)
  unfold inD at *
  simp only at hm
  have bx : -4294967296 ≤ (wayv p q).x ∧ (wayv p q).x ≤ 4294967296 := bound_mul hg hm.1 (by omega) (by omega)
  have byy : -4294967296 ≤ (wayv p q).y ∧ (wayv p q).y ≤ 4294967296 := bound_mul hg hm.2 (by omega) (by omega)
  omega
/-- Two directions in lowest terms that lie along one line are the same or opposite ones. -/
theorem cross_ne {d e : Dp} (hd : gcdD d = 1) (he : gcdD e = 1) (h1 : d ≠ e) (h2 : e ≠ negD d) : dotD (leftD d) e ≠ 0 := by
  intro h0
  have hx : d.x * e.y = d.y * e.x := by
    unfold dotD leftD at h0
    simp only at h0
    have : -d.y * e.x = -(d.y * e.x) := Int.neg_mul _ _
    omega
  have hn : d.x.natAbs * e.y.natAbs = d.y.natAbs * e.x.natAbs := by rw [← Int.natAbs_mul, hx, Int.natAbs_mul]
  have cd : Nat.Coprime d.x.natAbs d.y.natAbs := by unfold gcdD at hd; unfold Nat.Coprime; omega
  have ce : Nat.Coprime e.x.natAbs e.y.natAbs := by unfold gcdD at he; unfold Nat.Coprime; omega
  have kx : d.x.natAbs = e.x.natAbs := by
    apply Nat.dvd_antisymm
    · exact Nat.Coprime.dvd_of_dvd_mul_left cd (by rw [← hn]; exact Nat.dvd_mul_right _ _)
    · exact Nat.Coprime.dvd_of_dvd_mul_right ce (by rw [hn]; exact Nat.dvd_mul_left _ _)
  have ky : d.y.natAbs = e.y.natAbs := by
    apply Nat.dvd_antisymm
    · exact Nat.Coprime.dvd_of_dvd_mul_left cd.symm (by rw [hn]; exact Nat.dvd_mul_right _ _)
    · exact Nat.Coprime.dvd_of_dvd_mul_right ce.symm (by rw [← hn]; exact Nat.dvd_mul_left _ _)
  have hm : ∀ (P : d.x = 0 ∨ d.y = 0), False := fun hz => by
    rcases hz with hz | hz
    · have : e.x = 0 := by omega
      rcases Int.natAbs_eq_natAbs_iff.1 ky with h | h
      · exact h1 (Dp.eq_iff.2 ⟨by omega, h⟩)
      · exact h2 (Dp.eq_iff.2 ⟨by unfold negD; simp only; omega, by unfold negD; simp only; omega⟩)
    · have : e.y = 0 := by omega
      rcases Int.natAbs_eq_natAbs_iff.1 kx with h | h
      · exact h1 (Dp.eq_iff.2 ⟨h, by omega⟩)
      · exact h2 (Dp.eq_iff.2 ⟨by unfold negD; simp only; omega, by unfold negD; simp only; omega⟩)
  rcases Int.natAbs_eq_natAbs_iff.1 kx with hx1 | hx1 <;> rcases Int.natAbs_eq_natAbs_iff.1 ky with hy1 | hy1
  · exact h1 (Dp.eq_iff.2 ⟨hx1, hy1⟩)
  · have e1 : e.x = d.x := hx1.symm
    have e2 : e.y = -d.y := by omega
    rw [e1, e2, Int.mul_neg, Int.mul_comm d.y d.x] at hx
    have : d.x * d.y = 0 := by omega
    exact hm (Int.mul_eq_zero.1 this)
  · have e1 : e.x = -d.x := by omega
    have e2 : e.y = d.y := hy1.symm
    rw [e1, e2, Int.mul_neg, Int.mul_comm d.y d.x] at hx
    have : d.x * d.y = 0 := by omega
    exact hm (Int.mul_eq_zero.1 this)
  · exact h2 (Dp.eq_iff.2 ⟨by unfold negD; simp only; omega, by unfold negD; simp only; omega⟩)

/-- The places of the corners between the ends, one by one. -/
theorem miters_len (h : Rat) : ∀ (c w : List Dp), c.length = w.length → (miters h c w).length = w.length - 1
  | _, [], hl => by cases ‹List Dp› <;> simp [miters] at *
  | [], _ :: _, hl => by simp at hl
  | p :: c, [d], hl => by simp [miters]
  | p :: c, d :: e :: w, hl => by
    have := miters_len h c (e :: w) (by simp at hl ⊢; omega)
    simp only [miters, List.length_cons, this]
    omega
theorem miters_at (h : Rat) : ∀ (c w : List Dp) (j : Nat) (p d e : Dp), c[j]? = some p → w[j]? = some d → w[j + 1]? = some e → (miters h c w)[j]? = some (miterP p d e h)
  | [], _, j, p, d, e, h1, h2, h3 => by simp at h1
  | _ :: _, [], j, p, d, e, h1, h2, h3 => by simp at h2
  | _ :: _, [a], j, p, d, e, h1, h2, h3 => by simp at h3
  | q :: c, a :: b :: w, j, p, d, e, h1, h2, h3 => by
    cases j with
    | zero =>
      simp at h1 h2 h3
      subst h1 h2 h3
      rfl
    | succ j =>
      simp only [miters, List.getElem?_cons_succ] at h1 h2 h3 ⊢
      exact miters_at h c (b :: w) j p d e h1 h2 h3
theorem take_snoc {α : Type} {l : List α} {j : Nat} {x : α} (h : l[j]? = some x) : l.take (j + 1) = l.take j ++ [x] := by
  obtain ⟨hj, rfl⟩ := List.getElem?_eq_some_iff.1 h
  exact List.take_succ_eq_append_getElem hj
theorem drop_snoc {α : Type} {l : List α} {j : Nat} {x : α} (h : l[j]? = some x) : (l.drop j).reverse = (l.drop (j + 1)).reverse ++ [x] := by
  obtain ⟨hj, rfl⟩ := List.getElem?_eq_some_iff.1 h
  rw [List.drop_eq_getElem_cons hj, List.reverse_cons]
end Go.Proofs.Ytaafmafdnnjmdaa
