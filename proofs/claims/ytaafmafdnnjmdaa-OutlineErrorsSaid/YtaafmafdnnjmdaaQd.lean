
/- Paths that go up all the way are refused for their arguments or places alone. -/
import Derived.Test.YtaafmafdnnjmdaaPv
set_option linter.unusedSimpArgs false
set_option linter.unusedVariables false
namespace Go.Proofs.Ytaafmafdnnjmdaa

/-- Each point lies above the one ahead. -/
def Up : List Dp → Prop
  | p :: q :: r => p.y < q.y ∧ Up (q :: r)
  | _ => True
theorem way_up {p q : Dp} (h : p.y < q.y) : 0 < (wayv p q).y := by
  have hne : (⟨q.x - p.x, q.y - p.y⟩ : Dp).x ≠ 0 ∨ (⟨q.x - p.x, q.y - p.y⟩ : Dp).y ≠ 0 := .inr (by simp only; omega)
  have h1 := (dir_mul ⟨q.x - p.x, q.y - p.y⟩).2
  have h2 := gcdD_pos hne
  unfold wayv
  simp only at h1
  generalize (dirOf ⟨q.x - p.x, q.y - p.y⟩).y = y at *
  generalize gcdD ⟨q.x - p.x, q.y - p.y⟩ = g at *
  by_cases hy : 0 < y
  · exact hy
  · have : g * y ≤ 0 := Int.mul_nonpos_of_nonneg_of_nonpos (by omega) (by omega)
    omega
theorem backs_up : ∀ {w : List Dp}, (∀ d ∈ w, 0 < d.y) → backs w = false
  | [], _ => rfl
  | [_], _ => rfl
  | e :: d :: r, h => by
    have h1 := h e (by simp)
    have h2 := h d (by simp)
    simp only [backs, Bool.or_eq_false_iff, decide_eq_false_iff_not]
    refine ⟨fun he => ?_, backs_up (fun x hx => h x (List.mem_cons_of_mem _ hx))⟩
    rw [he] at h1
    simp only at h1
    omega
theorem corn_up : ∀ (pts : List Dp) (s : List Dp × List Dp) (l : Dp), CornOk s.1 s.2 → s.1.head? = some l → (∀ d ∈ s.2, 0 < d.y) → Up (l :: pts) → (pts = [] → s.2 ≠ []) →
    2 ≤ (pts.foldl push s).1.length ∧ ∀ d ∈ (pts.foldl push s).2, 0 < d.y
  | [], s, l, hc, hl, hd, _, hn => by
    have := hc.len
    have hne : s.1 ≠ [] := fun e => by rw [e] at hl; simp at hl
    rw [if_neg hne] at this
    have h2 : 0 < s.2.length := List.length_pos_iff.2 (hn rfl)
    exact ⟨by simp only [List.foldl_nil]; omega, hd⟩
  | p :: r, s, l, hc, hl, hd, hu, hn => by
    obtain ⟨R, w⟩ := s
    match R, hl with
    | a :: R', hl =>
      simp at hl
      subst hl
      have hy := hu.1
      have hap : a ≠ p := by rintro rfl; omega
      have hp : push (a :: R', w) p = if w.head? = some (wayv a p) then (p :: R', w) else (p :: a :: R', wayv a p :: w) := by
        simp only [push, if_neg hap]
      have hc2 := hc.push p
      rw [List.foldl_cons]
      rw [hp] at hc2 ⊢
      split at hc2
      · rename_i hw
        rw [if_pos hw]
        exact corn_up r _ p hc2 rfl hd hu.2 (fun _ e => by simp only at e; rw [e] at hw; simp at hw)
      · rename_i hw
        rw [if_neg hw]
        exact corn_up r _ p hc2 rfl (fun d hd' => by
          simp only at hd'
          rcases List.mem_cons.1 hd' with rfl | h
          · exact way_up hy
          · exact hd d h) hu.2 (fun _ e => by simp at e)
theorem oerr_up {pts : List Dp} (width kind bg en : Int) (h2 : 2 ≤ pts.length) (hu : Up pts) : oerr pts width kind bg en = if 8191 < pts.length then 2 else if argBad width kind bg en = true then 1 else if pts.any outP = true then 26 else 0 := by
  match pts, h2, hu with
  | a :: b :: r, _, hu =>
    have h := corn_up (b :: r) ([a], []) a rfl rfl (by simp) hu (by simp)
    have e : corn (a :: b :: r) = (b :: r).foldl push ([a], []) := rfl
    unfold oerr
    rw [e, backs_up h.2, if_neg (show ¬ ((b :: r).foldl push ([a], [])).1.length < 2 by omega)]
    simp

/-- The points of the statement's path. -/
def zz (n x : Int) (i : Nat) : Dp := if (i : Int) + 1 = n then ⟨x, i⟩ else ⟨((i % 2 : Nat) : Int), i⟩
def zzs (n : Nat) (x : Int) : List Dp := (List.range n).map (zz n x)
theorem zz_y (n x : Int) (i : Nat) : (zz n x i).y = i := by unfold zz; split <;> rfl
theorem up_of {l : List Dp} (h : ∀ (i : Nat) (a b : Dp), l[i]? = some a → l[i + 1]? = some b → a.y < b.y) : Up l := by
  match l, h with
  | [], _ => trivial
  | [_], _ => trivial
  | a :: b :: r, h => exact ⟨h 0 a b rfl rfl, up_of (fun i x y hx hy => h (i + 1) x y hx hy)⟩
theorem zzs_at {n : Nat} {x : Int} {i : Nat} {a : Dp} (h : (zzs n x)[i]? = some a) : i < n ∧ a = zz n x i := by
  unfold zzs at h
  rw [List.getElem?_map, Option.map_eq_some_iff] at h
  obtain ⟨k, h1, h2⟩ := h
  obtain ⟨h3, h4⟩ := List.getElem?_eq_some_iff.1 h1
  simp at h3 h4
  subst h4
  exact ⟨h3, h2.symm⟩
theorem zzs_get {n : Nat} {x : Int} {i : Nat} (h : i < n) : (zzs n x)[i]? = some (zz n x i) := by
  unfold zzs
  rw [List.getElem?_map, List.getElem?_range h]
  rfl
theorem zzs_len (n : Nat) (x : Int) : (zzs n x).length = n := by unfold zzs; simp
theorem zzs_up (n : Nat) (x : Int) (k : Nat) : Up ((zzs n x).drop k) := up_of (fun i a b ha hb => by
  rw [List.getElem?_drop] at ha hb
  rw [(zzs_at ha).2, (zzs_at hb).2, zz_y, zz_y]
  omega)
theorem zzs_out {n : Nat} {x : Int} (hn : n ≤ 8191) {k : Nat} (hk : k < n) : ((zzs n x).drop k).any outP = outB x := by
  have hl : (zzs n x)[n - 1]? = some ⟨x, (n : Int) - 1⟩ := by
    rw [zzs_get (by omega)]
    unfold zz
    rw [if_pos (by omega)]
    congr 2
    omega
  have hlast : outP ⟨x, (n : Int) - 1⟩ = outB x := by
    unfold outP
    simp only
    have : outB ((n : Int) - 1) = false := by
      unfold outB
      rw [decide_eq_false (by omega), decide_eq_false (by omega)]
      rfl
    rw [this, Bool.or_false]
  rw [Bool.eq_iff_iff, List.any_eq_true]
  constructor
  · rintro ⟨p, hp, ho⟩
    obtain ⟨i, hi⟩ := List.getElem?_of_mem hp
    rw [List.getElem?_drop] at hi
    obtain ⟨h1, h2⟩ := zzs_at hi
    by_cases he : k + i = n - 1
    · rw [he, hl] at hi
      injection hi with hi
      rw [← hlast, hi]
      exact ho
    · exfalso
      subst h2
      unfold zz at ho
      rw [if_neg (by omega)] at ho
      unfold outP at ho
      simp only [Bool.or_eq_true] at ho
      unfold outB at ho
      simp only [Bool.or_eq_true, decide_eq_true_eq] at ho
      omega
  · intro ho
    refine ⟨⟨x, (n : Int) - 1⟩, ?_, by rw [hlast]; exact ho⟩
    have : ((zzs n x).drop k)[n - 1 - k]? = some ⟨x, (n : Int) - 1⟩ := by rw [List.getElem?_drop, show k + (n - 1 - k) = n - 1 by omega]; exact hl
    exact List.mem_of_getElem? this
/-- The last three points tell the error. -/
theorem oerr_last {n : Nat} {x width kind bg en : Int} (h3 : 3 ≤ n) (hn : n ≤ 8191) : oerr ((zzs n x).drop (n - 3)) width kind bg en = oerr (zzs n x) width kind bg en := by
  have hd : ((zzs n x).drop (n - 3)).length = 3 := by rw [List.length_drop, zzs_len]; omega
  have hu := zzs_up n x 0
  have ho := zzs_out (x := x) hn (k := 0) (by omega)
  rw [List.drop_zero] at hu ho
  rw [oerr_up width kind bg en (by omega) (zzs_up n x (n - 3)), oerr_up width kind bg en (by rw [zzs_len]; omega) hu, hd, zzs_len, zzs_out hn (by omega), ho, if_neg (show ¬ 8191 < 3 by decide), if_neg (show ¬ 8191 < n by omega)]
end Go.Proofs.Ytaafmafdnnjmdaa
