/- nat: by. -/
import Derived.Test.YtnjohlimjbmkgaaProg
import Derived.Test.YtnjohlimjbmkgaaOwn
namespace Go.Proofs.Ytnjohlimjbmkgaa
open Go.RowKit

set_option maxHeartbeats 400000 in
theorem by_walk (ao : Option Addr) (n c : Nat) (l : List Nat) (w : World) (d : Nat) (h : IntsAt w 113 .u32 ⟨ao, n, c⟩ l) (hl : ∀ d ∈ l, d < 4294967296) (hd : d < 4294967296) (hd0 : 0 < d) (hn : n ≤ 1000000000000) :
    Calls Try.prog 80 #[.slice ao n c, .int .u32 (d : Int)] w fun e w' =>
      ∃ (s : Sl) (o : List Nat) (r : Nat), e = .returned (.tuple #[.slice s.ao s.n s.c, .int .u32 (r : Int)]) ∧ IntsAt w' 113 .u32 s o ∧ (∀ d ∈ o, d < 4294967296) ∧ o.length = n ∧ val 4294967296 l = d * val 4294967296 o + r ∧ r < d ∧ Below w.heap.size w w' := by
  have hop : Hid (0 < n → ∃ b off, ao = some ⟨b, off, none⟩ ∧ b < w.heap.size ∧ ∀ i, i < n → w.cell? ⟨b, off + i, none⟩ = some (.int .u32 ((dg l i : Nat) : Int))) := h.open
  have hlen : Hid (n = l.length) := h.1
  clear h
  have hll : Hid (∀ d ∈ l, d < 4294967296) := hl
  clear hl
  go_enter Try.func80, Try.ntmps80
  go_wp2_with (at_make; refine wpList_mkfull rowU32 _ rfl _ _ rfl w.heap.size _ _ _ _ n rfl rfl rfl rfl (by omega) (by unfold maxLen; omega) (Nat.le_refl _) ?_; intro w1 ho hb hsz)
  go_loopw [7, 8] (fun r i wr => ∃ (k : Nat) (o : List Nat) (q : Nat), k ≤ n ∧ i = .int .i64 ((k : Int) - 1) ∧ r = .int .u64 q ∧ q < d ∧ Own wr w.heap.size 113 .u32 (.slice (some ⟨w.heap.size, 0, none⟩) n n) o ∧ Hid (o.length = n) ∧ Hid (∀ d ∈ o, d < 4294967296) ∧ Hid (val 4294967296 (l.drop k) = d * val 4294967296 (o.drop k) + q) ∧ Below w.heap.size w wr) (fun _ i _ => (intOf i + 1).toNat)
  case atStart => exact ⟨n, List.replicate n 0, 0, Nat.le_refl _, rfl, rfl, hd0, ho, by unfold Hid; simp, by unfold Hid; simp, by unfold Hid; have := hlen.out; simp [val, this], hb⟩
  case round =>
    obtain ⟨k, o, q, hk, rfl, rfl, hq, hown, hol, hod, hval, hbl⟩ := hrel
    by_cases hlt : 0 < k
    · obtain ⟨b, off, rfl, hbw, hcell⟩ := hop.out (by omega)
      obtain ⟨j, rfl⟩ : ∃ j, k = j + 1 := ⟨k - 1, by omega⟩
      have hck : wr.cell? ⟨b, off + j, none⟩ = some (.int .u32 ((dg l j : Nat) : Int)) := (hbl.cell (p := ⟨b, off + j, none⟩) hbw).trans (hcell j (by omega))
      clear hcell
      have hx : dg l j < 4294967296 := dg_lt hll.out (by omega) j
      generalize hxe : dg l j = x at *
      have HX := Lib.hid hxe; clear hxe
      have hj1 : j < l.length := by have := hlen.out; omega
      have hol' : o.length = n := hol.out
      have hstep := Lib.hid (by_step (B := 4294967296) hj1 (by rw [hlen.out.symm, hol']) HX.out hval.out)
      have hbo := or_join q x (by omega) hx
      generalize hN : q * 4294967296 + x = N at *
      have hN1 : N / d < 4294967296 := by rw [← hN]; exact div_limb hq hx
      have hN2 : N % d < d := Nat.mod_lt _ hd0
      have hN3 : N < 18446744073709551616 := by rw [← hN]; omega
      clear hN hol'
      have hw1 : IntKind.u64.wrap ((N : Int) / (d : Int)) = ((N / d : Nat) : Int) := by
        rw [← Int.natCast_ediv]
        generalize N / d = u at *
        exact IntWalk.u64_in _ (by omega)
      generalize N / d = u at *
      have hst := hown.store j u
      obtain ⟨hoc, hof, _, _⟩ := hown.slot j (by have := hol.out; omega)
      go_wp2
      go_roundw
      case rel => exact ⟨j, o.set j u, N % d, by omega, rfl, by go_num, hN2, hst.1, by unfold Hid; rw [List.length_set]; exact hol.out, set_lt hod.out hN1, hstep.out, hbl.trans hst.2⟩
      case measure => simp [intOf]
    · obtain rfl : k = 0 := by omega
      obtain ⟨s, hs, hsi⟩ := hown.ints
      go_wp2
      go_ret2
      exact ⟨s, o, q, by rw [hs]; rfl, hsi, hod.out, hol.out, by simpa using hval.out, hq, hbl⟩

end Go.Proofs.Ytnjohlimjbmkgaa
