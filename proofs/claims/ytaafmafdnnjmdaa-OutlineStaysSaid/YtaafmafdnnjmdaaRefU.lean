
/- The reference: cut. The reference: Parse. Both Parses, each in one contract. The reference: Text. -/
import Derived.Test.YtaafmafdnnjmdaaProg
import Derived.Test.YtaafmafdnnjmdaaBase
import Derived.Test.YtaafmafdnnjmdaaNatX
import Derived.Test.YtaafmafdnnjmdaaMaths
import Derived.Lib.Strings
import Derived.Deep.DeepCutAuto
import Derived.Deep.CutBlock
import Derived.Deep.LoopGhost
set_option linter.unusedSimpArgs false
set_option linter.unusedVariables false
namespace Go.Proofs.Ytaafmafdnnjmdaa
open Go.RowKit

set_option maxHeartbeats 400000 in
theorem rcut_walk (ao : Option Addr) (n c : Nat) (l : List Nat) (w : World) (h : IntsAt w 3 .i64 ⟨ao, n, c⟩ l) :
    Calls Try.prog 129 #[.slice ao n c] w fun e w' =>
      ∃ k : Nat, k ≤ n ∧ e = .returned (.agg #[.slice ao k c]) ∧ (∀ i, k ≤ i → i < n → dg l i = 0) ∧ (0 < k → dg l (k - 1) ≠ 0) ∧ Below w.heap.size w w' := by
  have hm : n ≤ 9223372036854775807 := by have := h.2.1; have := h.2.2.1; simp only at *; omega
  have hnc : n ≤ c := h.2.1
  have hl : Hid (n = l.length) := h.1
  have hop : Hid (0 < n → ∃ b off, ao = some ⟨b, off, none⟩ ∧ b < w.heap.size ∧ ∀ i, i < n → w.cell? ⟨b, off + i, none⟩ = some (.int .i64 ((dg l i : Nat) : Int))) := h.open
  have hcc : c ≤ 9223372036854775807 := h.2.2.1
  clear h
  go_enter Try.func129, Try.ntmps129
  go_wp2
  go_loop [3] (fun u => ∃ k : Nat, k ≤ n ∧ u = .int .i64 k ∧ Hid (∀ i, k ≤ i → i < n → dg l i = 0)) (fun u => (intOf u).toNat)
  case atStart => exact ⟨n, Nat.le_refl _, rfl, fun i h1 h2 => by omega⟩
  case round =>
    obtain ⟨k, hk, rfl, hz⟩ := hrel
    by_cases h0 : 0 < k
    · obtain ⟨b, off, rfl, hb, hcell⟩ := hop.out (by omega)
      obtain ⟨j, rfl⟩ : ∃ j, k = j + 1 := ⟨k - 1, by omega⟩
      have hcj := hcell j (by omega)
      clear hcell
      by_cases hd : dg l j = 0
      · rw [hd] at hcj
        go_wp2
        go_round
        case rel =>
          refine ⟨j, by omega, by go_num, fun i h1 h2 => ?_⟩
          by_cases hij : i = j
          · rw [hij]; exact hd
          · exact hz.out i (by omega) h2
        case measure => simp [intOf]
      · have hdd : (((dg l j : Nat) : Int) == 0) = false := by simp; omega
        generalize hx : dg l j = x at *
        have hx := Lib.hid hx
        have hd := Lib.hid hd
        go_wp2
        refine bodyPost_ret (v := .agg #[.slice (some ⟨b, off, none⟩) (j + 1) c]) (by simp [results, Try.results129, go_sem]) rfl ⟨j + 1, hk, rfl, hz.out, fun _ => by simp only [Nat.add_sub_cancel]; rw [hx.out]; exact hd.out, ?_⟩
        exact (Below.refl _ _).alloc (Nat.le_refl _) _
    · obtain rfl : k = 0 := by omega
      go_wp2
      refine bodyPost_ret (v := .agg #[.slice ao 0 c]) (by simp [results, Try.results129, go_sem]) rfl ⟨0, hk, rfl, hz.out, fun h => absurd h (by omega), ?_⟩
      exact (Below.refl _ _).alloc (Nat.le_refl _) _

/-- cut, as numbers. -/
theorem rcut_spec {w : World} {s : Sl} {l : List Nat} (h : IntsAt w 3 .i64 s l) (hd : ∀ d ∈ l, d < 10000) :
    Calls Try.prog 129 #[.slice s.ao s.n s.c] w fun e w' =>
      ∃ t : Sl, e = .returned (.agg #[.slice t.ao t.n t.c]) ∧ RefS w' t (val 10000 l) ∧ t.n ≤ s.n ∧ Below w.heap.size w w' := by
  refine (rcut_walk s.ao s.n s.c l w h).mono ?_
  rintro e w' ⟨k, hk, rfl, h0, h1, hb⟩
  have hl := h.1
  have hn := norm_take (l := l) (k := k) (by omega) (fun i a b => h0 i a (by omega)) h1 10000
  exact ⟨⟨s.ao, k, s.c⟩, rfl, ⟨l.take k, (h.cut k s.c hk (by have := h.2.1; omega) (Nat.le_refl _)).up hb, fun d hdm => hd d (List.mem_of_mem_take hdm), hn.1, hn.2⟩, hk, hb⟩

end Go.Proofs.Ytaafmafdnnjmdaa

namespace Go.Proofs.Ytaafmafdnnjmdaa
open Go.RowKit

/-- What Parse answers where the text is neither too long nor wrong in front. -/
def RParsePost (w : World) (s : ByteArray) (e : Ending) (w' : World) : Prop :=
  (Digs (bs s) ∧ ∃ u : Sl, e = .returned (.tuple #[.agg #[.slice u.ao u.n u.c], .int .i64 0]) ∧ RefS w' u (dval (bs s)) ∧ u.n ≤ s.size ∧ Below w.heap.size w w') ∨
  (¬ Digs (bs s) ∧ e = .returned (.tuple #[.agg #[.slice none 0 0], .int .i64 3]) ∧ Below w.heap.size w w')

/-- The digits so far. -/
def RParseRel (w : World) (s : ByteArray) (ov ev : Value) (wr : World) : Prop := ∃ (z : Int) (k : Nat) (o : List Nat),
  ev = .int .i64 z ∧ z ≤ s.size ∧ -4 < z ∧ 4 * (k : Int) = s.size - z ∧ o.length = k ∧ (∀ d ∈ o, d < 10000) ∧ val 10000 o + 10000 ^ k * dval ((bs s).take z.toNat) = dval (bs s) ∧
  Own wr (w.heap.size + 1) 3 .i64 ov o ∧ wr.heap[w.heap.size]? = some (.cells #[.slice none 0 0] 94 (0, 0)) ∧ Below w.heap.size w wr

theorem bs_size (s : ByteArray) : (bs s).length = s.size := by simp [bs]
theorem bs_dg (s : ByteArray) (k : Nat) (h : k < s.size) : dg (bs s) k = (s[k]'h).toNat := by
  rw [dg_of (by rw [bs_size]; exact h)]
  simp [bs]
  rfl

/-- The digits of one round. -/
def RParseIn (s : ByteArray) (F E : Nat) (nv iv : Value) : Prop := ∃ j m : Nat, iv = .int .i64 j ∧ nv = .int .i64 m ∧ F ≤ j ∧ j ≤ E ∧ m < 10000 ∧ m = dval (seg (bs s) F j)

end Go.Proofs.Ytaafmafdnnjmdaa

namespace Go.Proofs.Ytaafmafdnnjmdaa
open Go.RowKit

/-- Is a text read? -/
def good (l : List Nat) : Bool := !l.isEmpty && decide (l.length ≤ 4096) && l.all (fun d => decide (48 ≤ d) && decide (d ≤ 57)) && (decide (l.length ≤ 1) || !(l.headD 0 == 48))

theorem good_iff (l : List Nat) : good l = true ↔ Good l := by
  unfold good Good Digs
  cases l with
  | nil => simp
  | cons a l =>
    simp only [Bool.and_eq_true, Bool.or_eq_true, decide_eq_true_eq, List.all_eq_true, List.isEmpty_cons, Bool.not_false, Bool.not_eq_true', beq_eq_false_iff_ne, List.headD_cons, List.head?_cons, ne_eq, Option.some.injEq, reduceCtorEq, not_false_eq_true, true_and, and_assoc]
    constructor
    · rintro ⟨h1, h2, h3⟩
      exact ⟨h1, h2, fun h => h3.resolve_left (by omega)⟩
    · rintro ⟨h1, h2, h3⟩
      refine ⟨h1, h2, ?_⟩
      by_cases h : (a :: l).length ≤ 1
      · exact .inl h
      · exact .inr (h3 (by omega))

/-- The error of a text. -/
def perr (s : ByteArray) : Int := if 4096 < s.size then 2 else if good (bs s) then 0 else 3
/-- The number of a text. -/
def pval (s : ByteArray) : Nat := if good (bs s) then dval (bs s) else 0

theorem good_size {s : ByteArray} (h : good (bs s) = true) : s.size ≤ 4096 := by
  have := ((good_iff _).1 h).2.1
  rwa [bs_size] at this

theorem perr_long {s : ByteArray} (h : 4096 < s.size) : perr s = 2 ∧ pval s = 0 := by
  have : ¬ good (bs s) = true := fun hg => by have := good_size hg; omega
  unfold perr pval
  rw [if_pos h, if_neg this]
  exact ⟨rfl, rfl⟩
theorem perr_bad {s : ByteArray} (h : s.size ≤ 4096) (hg : ¬ Good (bs s)) : perr s = 3 ∧ pval s = 0 := by
  have : ¬ good (bs s) = true := fun h => hg ((good_iff _).1 h)
  unfold perr pval
  rw [if_neg (by omega), if_neg this, if_neg this]
  exact ⟨rfl, rfl⟩
theorem perr_ok {s : ByteArray} (hg : Good (bs s)) : perr s = 0 ∧ pval s = dval (bs s) := by
  have hg' := (good_iff _).2 hg
  have := good_size hg'
  unfold perr pval
  rw [if_neg (by omega), if_pos hg', if_pos hg']
  exact ⟨rfl, rfl⟩

/-- What a text is. -/
theorem parse_cases (s : ByteArray) : (4096 < s.size) ∨ (s.size = 0 ∧ ¬ Good (bs s)) ∨ (∃ h : 1 < s.size, s.size ≤ 4096 ∧ (s[0]'(by omega)).toNat = 48 ∧ ¬ Good (bs s)) ∨
    (∃ h : 0 < s.size, s.size ≤ 4096 ∧ (s.size = 1 ∨ (s[0]'h).toNat ≠ 48) ∧ (Digs (bs s) → Good (bs s))) := by
  by_cases h1 : 4096 < s.size
  · exact .inl h1
  · by_cases h2 : s.size = 0
    · refine .inr (.inl ⟨h2, fun hg => hg.1 (List.eq_nil_of_length_eq_zero (by rw [bs_size]; exact h2))⟩)
    · have hp : 0 < s.size := by omega
      have hh : (bs s).head? = some (s[0]'hp).toNat := by
        have := bs_dg s 0 hp
        rw [List.head?_eq_getElem?, List.getElem?_eq_getElem (by rw [bs_size]; exact hp), ← this, dg_of (by rw [bs_size]; exact hp)]
      by_cases h3 : s.size = 1 ∨ (s[0]'hp).toNat ≠ 48
      · refine .inr (.inr (.inr ⟨hp, by omega, h3, fun hd => ⟨fun e => ?_, by rw [bs_size]; omega, hd, fun hl => ?_⟩⟩))
        · have := bs_size s
          rw [e] at this
          simp at this
          omega
        · rw [bs_size] at hl
          rw [hh]
          intro e
          injection e with e
          omega
      · refine .inr (.inr (.inl ⟨by omega, by omega, by omega, fun hg => ?_⟩))
        have := hg.2.2.2 (by rw [bs_size]; omega)
        rw [hh] at this
        exact this (congrArg some (by omega))

end Go.Proofs.Ytaafmafdnnjmdaa

namespace Go.Proofs.Ytaafmafdnnjmdaa
open Go.RowKit

theorem bs_append (s t : ByteArray) : bs (s ++ t) = bs s ++ bs t := by simp [bs]
theorem bs_drop (s : ByteArray) (a : Nat) : bs (s.extract a s.size) = (bs s).drop a := by
  unfold bs
  rw [Lib.extract_data, List.take_of_length_le (by simp), List.map_drop]
theorem bs_txt {l : List Nat} (h : ∀ d ∈ l, d < 256) : bs (txt l) = l := by
  unfold bs txt
  simp only [List.map_map]
  conv => rhs; rw [← List.map_id l]
  apply List.map_congr_left
  intro d hd
  have := h d hd
  simp
  omega
theorem txt_bs (s : ByteArray) : txt (bs s) = s := by
  obtain ⟨⟨l⟩⟩ := s
  simp only [bs, txt, List.map_map]
  have : (fun d => UInt8.ofNat d) ∘ (fun b : UInt8 => b.toNat) = id := by funext b; simp
  rw [this, List.map_id]
theorem eq_txt {s : ByteArray} {l : List Nat} (h : bs s = l) : s = txt l := by rw [← h, txt_bs]
theorem digs_lt {l : List Nat} (h : Digs l) : ∀ d ∈ l, d < 256 := fun d hd => by have := h d hd; omega

/-- The digits so far, the highest first. -/
def RTextRel (n : Nat) (l : List Nat) (sv iv : Value) : Prop := ∃ (k : Nat) (S : ByteArray), iv = .int .i64 ((k : Int) - 1) ∧ sv = .string S ∧ k ≤ n ∧ S.size = 4 * (n - k) ∧ Digs (bs S) ∧ dval (bs S) = val 10000 (l.drop k)

/-- The zeros in front. -/
def RStripRel (x : Nat) (sv : Value) : Prop := ∃ S : ByteArray, sv = .string S ∧ Digs (bs S) ∧ dval (bs S) = x ∧ S.size ≤ 4000000000000

end Go.Proofs.Ytaafmafdnnjmdaa
