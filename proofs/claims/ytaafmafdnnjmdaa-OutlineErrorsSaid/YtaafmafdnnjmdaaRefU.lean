
/- The reference: cut. The reference: Parse. Both Parses, each in one contract. The reference: Text. -/
import Derived.Test.YtaafmafdnnjmdaaProg
import Derived.Test.YtaafmafdnnjmdaaBase
import Derived.Test.YtaafmafdnnjmdaaNatX
import Derived.Test.YtaafmafdnnjmdaaMaths
import Derived.Lib.Strings
import Derived.Deep.DeepCutAuto
import Derived.Deep.CutBlock
import Derived.Deep.LoopGhost
set_option linter.unusedSimpArgs false
set_option linter.unusedVariables false
namespace Go.Proofs.Ytaafmafdnnjmdaa
open Go.RowKit

set_option maxHeartbeats 400000 in
theorem rcut_walk (ao : Option Addr) (n c : Nat) (l : List Nat) (w : World) (h : IntsAt w 3 .i64 ⟨ao, n, c⟩ l) :
    Calls Try.prog 129 #[.slice ao n c] w fun e w' =>
      ∃ k : Nat, k ≤ n ∧ e = .returned (.agg #[.slice ao k c]) ∧ (∀ i, k ≤ i → i < n → dg l i = 0) ∧ (0 < k → dg l (k - 1) ≠ 0) ∧ Below w.heap.size w w' := by
  have hm : n ≤ 9223372036854775807 := by have := h.2.1; have := h.2.2.1; simp only at *; omega
  have hnc : n ≤ c := h.2.1
  have hl : Hid (n = l.length) := h.1
  have hop : Hid (0 < n → ∃ b off, ao = some ⟨b, off, none⟩ ∧ b < w.heap.size ∧ ∀ i, i < n → w.cell? ⟨b, off + i, none⟩ = some (.int .i64 ((dg l i : Nat) : Int))) := h.open
  have hcc : c ≤ 9223372036854775807 := h.2.2.1
  clear h
  go_enter Try.func129, Try.ntmps129
  go_wp2
  go_loop [3] (fun u => ∃ k : Nat, k ≤ n ∧ u = .int .i64 k ∧ Hid (∀ i, k ≤ i → i < n → dg l i = 0)) (fun u => (intOf u).toNat)
  case atStart => exact ⟨n, Nat.le_refl _, rfl, fun i h1 h2 => by omega⟩
  case round =>
    obtain ⟨k, hk, rfl, hz⟩ := hrel
    by_cases h0 : 0 < k
    · obtain ⟨b, off, rfl, hb, hcell⟩ := hop.out (by omega)
      obtain ⟨j, rfl⟩ : ∃ j, k = j + 1 := ⟨k - 1, by omega⟩
      have hcj := hcell j (by omega)
      clear hcell
      by_cases hd : dg l j = 0
      · rw [hd] at hcj
        go_wp2
        go_round
        case rel =>
          refine ⟨j, by omega, by go_num, fun i h1 h2 => ?_⟩
          by_cases hij : i = j
          · rw [hij]; exact hd
          · exact hz.out i (by omega) h2
        case measure => simp [intOf]
      · have hdd : (((dg l j : Nat) : Int) == 0) = false := by simp; omega
        generalize hx : dg l j = x at *
        have hx := Lib.hid hx
        have hd := Lib.hid hd
        go_wp2
        refine bodyPost_ret (v := .agg #[.slice (some ⟨b, off, none⟩) (j + 1) c]) (by simp [results, Try.results129, go_sem]) rfl ⟨j + 1, hk, rfl, hz.out, fun _ => by simp only [Nat.add_sub_cancel]; rw [hx.out]; exact hd.out, ?_⟩
        exact (Below.refl _ _).alloc (Nat.le_refl _) _
    · obtain rfl : k = 0 := by omega
      go_wp2
      refine bodyPost_ret (v := .agg #[.slice ao 0 c]) (by simp [results, Try.results129, go_sem]) rfl ⟨0, hk, rfl, hz.out, fun h => absurd h (by omega), ?_⟩
      exact (Below.refl _ _).alloc (Nat.le_refl _) _

/-- cut, as numbers. -/
theorem rcut_spec {w : World} {s : Sl} {l : List Nat} (h : IntsAt w 3 .i64 s l) (hd : ∀ d ∈ l, d < 10000) :
    Calls Try.prog 129 #[.slice s.ao s.n s.c] w fun e w' =>
      ∃ t : Sl, e = .returned (.agg #[.slice t.ao t.n t.c]) ∧ RefS w' t (val 10000 l) ∧ t.n ≤ s.n ∧ Below w.heap.size w w' := by
  refine (rcut_walk s.ao s.n s.c l w h).mono ?_
  rintro e w' ⟨k, hk, rfl, h0, h1, hb⟩
  have hl := h.1
  have hn := norm_take (l := l) (k := k) (by omega) (fun i a b => h0 i a (by omega)) h1 10000
  exact ⟨⟨s.ao, k, s.c⟩, rfl, ⟨l.take k, (h.cut k s.c hk (by have := h.2.1; omega) (Nat.le_refl _)).up hb, fun d hdm => hd d (List.mem_of_mem_take hdm), hn.1, hn.2⟩, hk, hb⟩

end Go.Proofs.Ytaafmafdnnjmdaa

namespace Go.Proofs.Ytaafmafdnnjmdaa
open Go.RowKit

end Go.Proofs.Ytaafmafdnnjmdaa

namespace Go.Proofs.Ytaafmafdnnjmdaa
open Go.RowKit

end Go.Proofs.Ytaafmafdnnjmdaa

namespace Go.Proofs.Ytaafmafdnnjmdaa
open Go.RowKit

end Go.Proofs.Ytaafmafdnnjmdaa
