/- strings.CutPrefix with "-". -/
import Derived.Test.YtnjohlimjbmkgaaProg
import Derived.Test.YtnjohlimjbmkgaaZedK
import Derived.Test.YtnjohlimjbmkgaaParseS
namespace Go.Proofs.Ytnjohlimjbmkgaa
open Go.RowKit

/-- Does a text begin with '-'? -/
def sneg (s : ByteArray) : Bool := (bs s).head? == some 45
/-- A text behind its '-'. -/
def sdig (s : ByteArray) : ByteArray := if sneg s = true then s.extract 1 s.size else s

theorem sneg_empty {s : ByteArray} (h : s.size = 0) : sneg s = false := by
  have : bs s = [] := List.eq_nil_of_length_eq_zero (by rw [bs_size]; exact h)
  unfold sneg
  rw [this]
  rfl
theorem sneg_head {s : ByteArray} (h : 0 < s.size) : sneg s = ((s[0]'h).toNat == 45) := by
  unfold sneg
  have := bs_dg s 0 h
  rw [List.head?_eq_getElem?, List.getElem?_eq_getElem (by rw [bs_size]; exact h), ← this, dg_of (by rw [bs_size]; exact h)]
  simp
theorem extract_one {s : ByteArray} (h : 0 < s.size) : s.extract 0 1 = ⟨#[s[0]'h]⟩ := by
  obtain ⟨d⟩ := s
  apply ByteArray.ext
  have h' : 0 < d.size := h
  simp only [ByteArray.data_extract]
  apply Array.ext
  · simp; omega
  · intro i h1 h2
    simp at h2
    subst h2
    simp
    rfl

theorem one_list (b : UInt8) : (⟨#[b]⟩ : ByteArray).toList = [b] := by
  rw [ByteArray.toList_eq]
theorem hasPrefix (s : ByteArray) (w : World) :
    Calls Try.prog 106 #[.string s, .string ⟨#[45]⟩] w fun e w' => e = .returned (.bool (sneg s)) ∧ w = w' := by
  by_cases h : 0 < s.size
  · have h1 : (1 : Int) ≤ (s.size : Int) := by omega
    have h2 : ((s.extract 0 1).toList == [45]) = sneg s := by
      rw [extract_one h, one_list, sneg_head h]
      rw [Bool.eq_iff_iff]
      simp only [beq_iff_eq, List.cons.injEq, and_true]
      exact ⟨fun e => by rw [e]; rfl, fun e => UInt8.toNat_inj.1 (by rw [e]; rfl)⟩
    have H2 := Lib.hid h2
    clear h2
    go_enter Try.func106, Try.ntmps106
    go_wp2
    rw [H2.out]
    go_ret
    exact ⟨rfl, rfl⟩
  · rw [sneg_empty (by omega)]
    have h1 : decide ((1 : Int) ≤ (s.size : Int)) = false := by simp; omega
    have h0 : s.size = 0 := by omega
    go_enter Try.func106, Try.ntmps106
    go_wp2
    go_ret
    exact ⟨rfl, rfl⟩

theorem cutPrefix0 (s : ByteArray) (w : World) (h : s.size ≤ 9223372036854775807) :
    Calls Try.prog 102 #[.string s, .string ⟨#[45]⟩] w fun e w' => e = .returned (.tuple #[.string (sdig s), .bool (sneg s)]) ∧ w = w' := by
  unfold sdig
  cases hs : sneg s with
  | true =>
    rw [if_pos rfl]
    have h0 : 0 < s.size := Nat.pos_of_ne_zero fun e => by rw [sneg_empty e] at hs; exact absurd hs (by decide)
    have h1 : (1 : Int) ≤ (s.size : Int) := by omega
    go_enter Try.func102, Try.ntmps102
    go_wp2_with fail
    refine (hasPrefix s _).mono ?_
    rintro e w' ⟨rfl, rfl⟩
    rw [hs]
    go_wp2
    exact bodyPost_ret (v := .tuple #[.string (s.extract 1 s.size), .bool true]) (by simp [results, Try.results102, go_sem]) rfl ⟨rfl, rfl⟩
  | false =>
    rw [if_neg (by decide)]
    go_enter Try.func102, Try.ntmps102
    go_wp2_with fail
    refine (hasPrefix s _).mono ?_
    rintro e w' ⟨rfl, rfl⟩
    rw [hs]
    go_wp2
    exact bodyPost_ret (v := .tuple #[.string s, .bool false]) (by simp [results, Try.results102, go_sem]) rfl ⟨rfl, rfl⟩

theorem cutPrefix (s : ByteArray) (w : World) (h : s.size ≤ 9223372036854775807) :
    Calls Try.prog 77 #[.string s, .string ⟨#[45]⟩] w fun e w' => e = .returned (.tuple #[.string (sdig s), .bool (sneg s)]) ∧ w = w' := by
  go_enter Try.func77, Try.ntmps77
  go_wp2_with fail
  refine (cutPrefix0 s _ h).mono ?_
  rintro e w' ⟨rfl, rfl⟩
  go_wp2
  exact bodyPost_ret (v := .tuple #[.string (sdig s), .bool (sneg s)]) (by simp [results, Try.results77, go_sem]) rfl ⟨rfl, rfl⟩
end Go.Proofs.Ytnjohlimjbmkgaa
