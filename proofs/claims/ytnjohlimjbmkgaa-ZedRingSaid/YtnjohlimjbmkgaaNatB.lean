/- nat: times. -/
import Derived.Test.YtnjohlimjbmkgaaProg
import Derived.Test.YtnjohlimjbmkgaaOwn
namespace Go.Proofs.Ytnjohlimjbmkgaa
open Go.RowKit

set_option maxHeartbeats 400000 in
theorem times_walk (ao : Option Addr) (n c : Nat) (l : List Nat) (w : World) (m r : Nat) (h : IntsAt w 113 .u32 ⟨ao, n, c⟩ l) (hl : ∀ d ∈ l, d < 4294967296) (hm : m < 4294967296) (hr : r < 4294967296) (hn : n ≤ 1000000000000) :
    Calls Try.prog 103 #[.slice ao n c, .int .u32 (m : Int), .int .u32 (r : Int)] w fun e w' =>
      ∃ (s : Sl) (o : List Nat), e = .returned (.slice s.ao s.n s.c) ∧ IntsAt w' 113 .u32 s o ∧ (∀ d ∈ o, d < 4294967296) ∧ o.length = n + 1 ∧ val 4294967296 o = val 4294967296 l * m + r ∧ Below w.heap.size w w' := by
  have hop : Hid (0 < n → ∃ b off, ao = some ⟨b, off, none⟩ ∧ b < w.heap.size ∧ ∀ i, i < n → w.cell? ⟨b, off + i, none⟩ = some (.int .u32 ((dg l i : Nat) : Int))) := h.open
  have hlen : Hid (n = l.length) := h.1
  clear h
  have hll : Hid (∀ d ∈ l, d < 4294967296) := hl
  clear hl
  go_enter Try.func103, Try.ntmps103
  go_wp2_with (at_make; refine wpList_mk rowU32 _ rfl _ _ rfl w.heap.size _ _ _ (n + 1) rfl rfl (by omega) (by omega) (by unfold maxLen; omega) (Nat.le_refl _) ?_; intro v1 w1 ho hb)
  go_loopw [7, 8, 19] (fun v cy i wr => ∃ (k : Nat) (o : List Nat) (q : Nat), k ≤ n ∧ i = .int .i64 k ∧ cy = .int .u64 q ∧ q < 4294967296 ∧ Own wr w.heap.size 113 .u32 v o ∧ Hid (o.length = k) ∧ Hid (∀ d ∈ o, d < 4294967296) ∧ Hid (val 4294967296 o + 4294967296 ^ k * q = val 4294967296 (l.take k) * m + r) ∧ Below w.heap.size w wr) (fun _ _ i _ => n - (intOf i).toNat)
  case atStart => exact ⟨0, [], r, Nat.zero_le _, rfl, rfl, hr, ho, rfl, by unfold Hid; simp, by unfold Hid; simp [val], hb⟩
  case round =>
    obtain ⟨k, o, q, hk, rfl, rfl, hq, hown, hol, hod, hval, hbl⟩ := hrel
    by_cases hlt : k < n
    · obtain ⟨b, off, rfl, hbw, hcell⟩ := hop.out (by omega)
      have hck : wr.cell? ⟨b, off + k, none⟩ = some (.int .u32 ((dg l k : Nat) : Int)) := (hbl.cell (p := ⟨b, off + k, none⟩) hbw).trans (hcell k hlt)
      clear hcell
      have hx : dg l k < 4294967296 := dg_lt hll.out (by omega) k
      generalize hxe : dg l k = x at *
      have HX := Lib.hid hxe; clear hxe
      obtain ⟨hx0, hxm⟩ := mul_lim x m hx hm
      go_wp2_with (at_builtin; refine wpList_push rowU32 _ rfl _ _ rfl w.heap.size u7 o _ ((q + x * m) % 4294967296) rfl rfl hown ?hz ?hl ?hm ?hb ?_)
      case hz => rfl
      case hl => have := hol.out; omega
      case hm => have := hol.out; unfold maxLen; omega
      case hb => exact hbl.size
      intro v' w' hown' hb'
      clear hck
      have hlt2 : (q + x * m) / 4294967296 < 4294967296 := by
        have : x * m ≤ 18446744065119617025 := by have := Nat.mul_le_mul (show x ≤ 4294967295 by omega) (show m ≤ 4294967295 by omega); omega
        omega
      go_wp2
      go_roundw
      case rel => exact ⟨k + 1, o ++ [(q + x * m) % 4294967296], (q + x * m) / 4294967296, by omega, by go_num, rfl, hlt2, hown', by unfold Hid; have := hol.out; simp; omega, snoc_lt hod.out (Nat.mod_lt _ (by omega)), times_step hol.out (by have := hlen.out; omega) HX.out hval.out, hbl.trans hb'⟩
      case measure => simp [intOf]; omega
    · obtain rfl : k = n := by omega
      go_wp2_with (at_builtin; go_loud (refine wpList_push rowU32 _ rfl _ _ rfl w.heap.size u7 o _ q rfl rfl hown ?hz ?hl ?hm ?hb ?_))
      case hz => rfl
      case hl => have := hol.out; omega
      case hm => have := hol.out; unfold maxLen; omega
      case hb => exact hbl.size
      intro v' w' hown' hb'
      obtain ⟨s, rfl, hs⟩ := hown'.ints
      go_wp2
      go_ret
      refine ⟨s, _, rfl, hs, snoc_lt hod.out hq, by have := hol.out; simp; omega, ?_, hbl.trans hb'⟩
      have h1 := hval.out
      rw [val_take_all _ _ _ (by have := hlen.out; omega)] at h1
      rw [val_snoc, hol.out]; exact h1

end Go.Proofs.Ytnjohlimjbmkgaa
