/- Decimal texts by ten thousands: plain maths. -/
import Derived.Test.YtnjohlimjbmkgaaMathT
namespace Go.Proofs.Ytnjohlimjbmkgaa

theorem dval_cat (a b : List Nat) : dval (a ++ b) = dval a * 10 ^ b.length + dval b := by
  unfold dval
  rw [List.foldl_append]
  exact dval_foldl b _

theorem Digs.nil : Digs [] := by intro d h; simp at h
theorem Digs.append {a b : List Nat} (ha : Digs a) (hb : Digs b) : Digs (a ++ b) := by
  intro d h
  rcases List.mem_append.1 h with h | h
  · exact ha d h
  · exact hb d h
theorem Digs.take {a : List Nat} (h : Digs a) (k : Nat) : Digs (a.take k) := fun d hd => h d (List.mem_of_mem_take hd)
theorem Digs.drop {a : List Nat} (h : Digs a) (k : Nat) : Digs (a.drop k) := fun d hd => h d (List.mem_of_mem_drop hd)

theorem dval_lt {l : List Nat} (h : Digs l) : dval l < 10 ^ l.length := by
  induction l with
  | nil => simp [dval]
  | cons a l ih =>
    have h1 := h a (by simp)
    have h2 := ih (fun d hd => h d (by simp [hd]))
    have h3 := dval_cat [a] l
    simp only [List.singleton_append] at h3
    rw [h3, List.length_cons, Nat.pow_succ]
    have h4 : dval [a] = a - 48 := by simp [dval]
    rw [h4]
    have : (a - 48) * 10 ^ l.length ≤ 9 * 10 ^ l.length := Nat.mul_le_mul_right _ (by omega)
    omega

/-- The digits from f on, up to e. -/
def seg (l : List Nat) (f e : Nat) : List Nat := (l.take e).drop f

theorem seg_empty (l : List Nat) (f : Nat) : seg l f f = [] := by unfold seg; rw [List.drop_eq_nil_of_le]; simp; omega

theorem seg_succ {l : List Nat} {f i : Nat} (hf : f ≤ i) (hi : i < l.length) : seg l f (i + 1) = seg l f i ++ [dg l i] := by
  unfold seg
  rw [List.take_succ_eq_append_getElem hi, List.drop_append_of_le_length (by simp; omega), dg_of hi]

theorem seg_len {l : List Nat} {f e : Nat} (he : e ≤ l.length) : (seg l f e).length = e - f := by
  unfold seg
  simp [Nat.min_eq_left he]

theorem seg_digs {l : List Nat} (h : Digs l) (f e : Nat) : Digs (seg l f e) := (h.take e).drop f

theorem dval_split {l : List Nat} {f e : Nat} (hf : f ≤ e) (he : e ≤ l.length) : dval (l.take e) = dval (l.take f) * 10 ^ (e - f) + dval (seg l f e) := by
  have e1 : l.take e = l.take f ++ seg l f e := by
    unfold seg
    conv => lhs; rw [← List.take_append_drop f (l.take e)]
    rw [List.take_take, Nat.min_eq_left hf]
  have h := dval_cat (l.take f) (seg l f e)
  rw [← e1, seg_len he] at h
  exact h

/-- One digit by ten thousands more. -/
theorem rparse_step {l o : List Nat} {e k : Nat} (hl : Digs l) (he : e ≤ l.length) (hk : o.length = k) (h : val 10000 o + 10000 ^ k * dval (l.take e) = dval l) (h0 : 0 < e) :
    val 10000 (o ++ [dval (seg l (e - 4) e)]) + 10000 ^ (k + 1) * dval (l.take (e - 4)) = dval l ∧ dval (seg l (e - 4) e) < 10000 := by
  have h1 := dval_split (l := l) (f := e - 4) (e := e) (by omega) he
  have h2 := dval_lt (seg_digs hl (e - 4) e)
  rw [seg_len he] at h2
  have h3 : 10 ^ (e - (e - 4)) ≤ 10 ^ 4 := Nat.pow_le_pow_right (by omega) (by omega)
  refine ⟨?_, by omega⟩
  rw [val_snoc, hk, ← h, h1, Nat.pow_succ]
  by_cases h4 : 4 ≤ e
  · rw [show e - (e - 4) = 4 by omega]
    grind
  · rw [show e - 4 = 0 by omega]
    simp [dval]

theorem dval_all {l o : List Nat} {k : Nat} (h : val 10000 o + 10000 ^ k * dval (l.take 0) = dval l) : val 10000 o = dval l := by
  simpa [dval] using h

theorem dval_seg_step {l : List Nat} {f i : Nat} (_hl : Digs l) (hf : f ≤ i) (hi : i < l.length) : dval (seg l f (i + 1)) = 10 * dval (seg l f i) + (dg l i - 48) := by
  rw [seg_succ hf hi, dval_append]

theorem dg_digs {l : List Nat} (h : Digs l) {i : Nat} (hi : i < l.length) : 48 ≤ dg l i ∧ dg l i ≤ 57 := by
  rw [dg_of hi]; exact h _ (List.getElem_mem hi)

/-- Four digits. -/
def four (d : Nat) : List Nat := [48 + d / 1000, 48 + d / 100 % 10, 48 + d / 10 % 10, 48 + d % 10]

theorem four_digs {d : Nat} (h : d < 10000) : Digs (four d) := by
  intro x hx
  simp [four] at hx
  omega

theorem dval_four {d : Nat} : dval (four d) = d := by
  simp [four, dval]
  omega

theorem dval_cat4 (a : List Nat) (d : Nat) : dval (a ++ four d) = 10000 * dval a + d := by
  rw [dval_cat, dval_four]
  simp [four]
  omega

theorem dec_of_digs {l : List Nat} (h : Digs l) (hne : l ≠ []) (h0 : dg l 0 ≠ 48) : l = dec (dval l) := by
  rcases l with _ | ⟨a, l⟩
  · exact absurd rfl hne
  · have ha := h a (by simp)
    have h1 : a ≠ 48 := by simpa [dg] using h0
    have hp := dval_pos (a := a) (by omega) l rfl
    unfold dec
    rw [if_neg (by omega)]
    exact (dl_dval _ _ rfl h ⟨a, l, rfl, by omega⟩).symm

theorem dval_strip {a : List Nat} (h0 : dg a 0 = 48) : dval (a.drop 1) = dval a := by
  rcases a with _ | ⟨b, l⟩
  · rfl
  · have : b = 48 := by simpa [dg] using h0
    subst this
    have := dval_cat [48] l
    simp only [List.singleton_append] at this
    rw [this]
    simp [dval]

theorem dval_ne {a : List Nat} (h : dval a ≠ 0) : a ≠ [] := by rintro rfl; exact h rfl

theorem val_drop_step {B : Nat} {l : List Nat} {k : Nat} (hk : k < l.length) : val B (l.drop k) = dg l k + B * val B (l.drop (k + 1)) := by
  rw [List.drop_eq_getElem_cons hk, val_cons, dg_of hk]

end Go.Proofs.Ytnjohlimjbmkgaa
