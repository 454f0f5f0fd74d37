/- math/bits: Len32, LeadingZeros32. -/
import Derived.Test.YtnjohlimjbmkgaaProg
import Derived.Test.YtnjohlimjbmkgaaOwn
import Derived.Lib.Strings
import Derived.Lib.Slices
import Derived.Lib.Small
import Derived.Lib.Walk
import Derived.Lib.BitFns
namespace Go.Proofs.Ytnjohlimjbmkgaa
open Go.RowKit

set_option maxHeartbeats 4000000 in
set_option maxRecDepth 100000 in
theorem len32_walk (x : Int) (w : World) (h0 : 0 ≤ x) (h1 : x ≤ 4294967295) :
    Calls Try.prog 99 #[.int .u32 x] w fun e w' => e = .returned (.int .i64 (Lib.bitLen x.toNat)) ∧ w = w' := by
  have key : ∀ y : Int, 0 ≤ y → y ≤ 255 → (∀ w, (Instr.index 9 (.string Lib.len8tab) (.int .u8 y)).run Try.prog w = .ok (.int .u8 (Lib.bitLen y.toNat : Int)) w) ∧ Lib.bitLen y.toNat ≤ 8 := fun y a b => by
    have l := Lib.bitLen_le8' y a b
    refine ⟨fun w => ?_, by omega⟩
    rw [Lib.run_index_len8tab (P := Try.prog) w 9 .u8 y Try.underlying9 a b, Lib.len8_of y a b]
  by_cases c1 : x < 65536
  · by_cases c2 : x < 256
    · obtain ⟨k1, k2⟩ := key x h0 (by omega)
      go_enter Try.func99, Try.ntmps99
      go_wp2
      go_ret
      exact ⟨rfl, rfl⟩
    · have s := Lib.bitLen_shift8 x.toNat (by omega) (by omega)
      obtain ⟨k1, k2⟩ := key (x / 256) (by omega) (by omega)
      have e : (x / 256).toNat = x.toNat / 256 := by omega
      rw [e] at k1 k2
      generalize Lib.bitLen (x.toNat / 256) = b at *
      have hs := Lib.hid s; clear s
      go_enter Try.func99, Try.ntmps99
      go_wp2
      go_ret
      exact ⟨congrArg Ending.returned (congrArg (Value.int IntKind.i64) (by have := hs.out; omega)), rfl⟩
  · by_cases c2 : x / 65536 < 256
    · have s := Lib.bitLen_shift16 x.toNat (by omega) (by omega)
      obtain ⟨k1, k2⟩ := key (x / 65536) (by omega) (by omega)
      have e : (x / 65536).toNat = x.toNat / 65536 := by omega
      rw [e] at k1 k2
      generalize Lib.bitLen (x.toNat / 65536) = b at *
      have hs := Lib.hid s; clear s
      go_enter Try.func99, Try.ntmps99
      go_wp2
      go_ret
      exact ⟨congrArg Ending.returned (congrArg (Value.int IntKind.i64) (by have := hs.out; omega)), rfl⟩
    · have s := Lib.bitLen_shift24 x.toNat (by omega) (by omega)
      obtain ⟨k1, k2⟩ := key (x / 65536 / 256) (by omega) (by omega)
      have e : (x / 65536 / 256).toNat = x.toNat / 16777216 := by omega
      rw [e] at k1 k2
      generalize Lib.bitLen (x.toNat / 16777216) = b at *
      have hs := Lib.hid s; clear s
      go_enter Try.func99, Try.ntmps99
      go_wp2
      go_ret
      exact ⟨congrArg Ending.returned (congrArg (Value.int IntKind.i64) (by have := hs.out; omega)), rfl⟩

/-- The number of bits. -/
def bl (x : Nat) : Nat := if x = 0 then 0 else Nat.log2 x + 1

theorem bitLenAux_eq : ∀ (f x : Nat), x < 2 ^ f → Lib.bitLenAux f x = bl x
  | 0, x, h => by obtain rfl : x = 0 := by omega
                  rfl
  | f + 1, x, h => by
    unfold Lib.bitLenAux bl
    split
    · rfl
    · rename_i hx
      rw [bitLenAux_eq f (x / 2) (by omega)]
      unfold bl
      rw [Nat.log2_def x]
      split <;> split <;> omega

theorem bl_lib (x : Nat) (h : x < 4294967296) : Lib.bitLen x = bl x := bitLenAux_eq 64 x (by omega)

theorem bl_le (x k : Nat) : bl x ≤ k ↔ x < 2 ^ k := by
  unfold bl
  split
  · rename_i h; subst h; simp; exact Nat.pow_pos (by omega)
  · rename_i h
    rw [← Nat.log2_lt h]
    omega

theorem len32_spec (x : Nat) (w : World) (h : x < 4294967296) :
    Calls Try.prog 99 #[.int .u32 (x : Int)] w fun e w' => e = .returned (.int .i64 (bl x : Int)) ∧ w = w' := by
  refine (len32_walk x w (by omega) (by omega)).mono ?_
  rintro e w' ⟨rfl, rfl⟩
  rw [Int.toNat_natCast, bl_lib x h]
  exact ⟨rfl, rfl⟩

set_option maxHeartbeats 400000 in
theorem lead32_spec (x : Nat) (w : World) (h : x < 4294967296) :
    Calls Try.prog 95 #[.int .u32 (x : Int)] w fun e w' => e = .returned (.int .i64 ((32 - bl x : Nat) : Int)) ∧ w = w' := by
  have hb : bl x ≤ 32 := (bl_le x 32).2 (by omega)
  go_enter Try.func95, Try.ntmps95
  go_wp2_with (go_at_call 99; refine (len32_spec x _ h).mono ?_; rintro e w' ⟨rfl, rfl⟩)
  go_ret
  have e : ((32 - bl x : Nat) : Int) = 32 - (bl x : Int) := by omega
  rw [e]
  exact ⟨rfl, rfl⟩

end Go.Proofs.Ytnjohlimjbmkgaa
