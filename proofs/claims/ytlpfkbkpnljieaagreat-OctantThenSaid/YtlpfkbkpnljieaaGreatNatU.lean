/- The contracts of the inner functions of nat: cut. nat: times. nat: by. nat: Add. nat: less. nat: Cmp. -/
import Derived.Test.YtlpfkbkpnljieaaGreatProg
import Derived.Test.YtlpfkbkpnljieaaGreatBase
import Derived.Deep.QuietTactic
import Derived.BigQuiet
set_option linter.unusedSimpArgs false
set_option linter.unusedVariables false
namespace Go.Proofs.YtlpfkbkpnljieaaGreat
open Go.RowKit

set_option maxHeartbeats 400000 in
theorem cut_walk (ao : Option Addr) (n c : Nat) (l : List Nat) (w : World) (h : IntsAt w 149 .u32 ⟨ao, n, c⟩ l) :
    Calls Tryz.prog 81 #[.slice ao n c] w fun e w' =>
      ∃ k : Nat, k ≤ n ∧ e = .returned (.agg #[.slice ao k k]) ∧ (∀ i, k ≤ i → i < n → dg l i = 0) ∧ (0 < k → dg l (k - 1) ≠ 0) ∧ Below w.heap.size w w' := by
  have hm : n ≤ 9223372036854775807 := by have := h.2.1; have := h.2.2.1; simp only at *; omega
  have hnc : n ≤ c := h.2.1
  have hl : Hid (n = l.length) := h.1
  have hop : Hid (0 < n → ∃ b off, ao = some ⟨b, off, none⟩ ∧ b < w.heap.size ∧ ∀ i, i < n → w.cell? ⟨b, off + i, none⟩ = some (.int .u32 ((dg l i : Nat) : Int))) := h.open
  have hcc : c ≤ 9223372036854775807 := h.2.2.1
  clear h
  go_enter Tryz.func81, Tryz.ntmps81
  go_wp2
  go_loop [3] (fun u => ∃ k : Nat, k ≤ n ∧ u = .int .i64 k ∧ Hid (∀ i, k ≤ i → i < n → dg l i = 0)) (fun u => (intOf u).toNat)
  case atStart => exact ⟨n, Nat.le_refl _, rfl, fun i h1 h2 => by omega⟩
  case round =>
    obtain ⟨k, hk, rfl, hz⟩ := hrel
    by_cases h0 : 0 < k
    · obtain ⟨b, off, rfl, hb, hcell⟩ := hop.out (by omega)
      obtain ⟨j, rfl⟩ : ∃ j, k = j + 1 := ⟨k - 1, by omega⟩
      have hcj := hcell j (by omega)
      clear hcell
      by_cases hd : dg l j = 0
      · rw [hd] at hcj
        go_wp2
        go_round
        case rel =>
          refine ⟨j, by omega, by go_num, fun i h1 h2 => ?_⟩
          by_cases hij : i = j
          · rw [hij]; exact hd
          · exact hz.out i (by omega) h2
        case measure => simp [intOf]
      · have hdd : (((dg l j : Nat) : Int) == 0) = false := by simp; omega
        generalize hx : dg l j = x at *
        have hx := Lib.hid hx
        have hd := Lib.hid hd
        go_wp2
        refine bodyPost_ret (v := .agg #[.slice (some ⟨b, off, none⟩) (j + 1) (j + 1)]) (by simp [results, Tryz.results81, go_sem]) rfl ⟨j + 1, hk, rfl, hz.out, fun _ => by simp only [Nat.add_sub_cancel]; rw [hx.out]; exact hd.out, ?_⟩
        exact (Below.refl _ _).alloc (Nat.le_refl _) _
    · obtain rfl : k = 0 := by omega
      go_wp2
      refine bodyPost_ret (v := .agg #[.slice ao 0 0]) (by simp [results, Tryz.results81, go_sem]) rfl ⟨0, hk, rfl, hz.out, fun h => absurd h (by omega), ?_⟩
      exact (Below.refl _ _).alloc (Nat.le_refl _) _

/-- cut, as numbers. -/
theorem cut_spec {w : World} {s : Sl} {l : List Nat} (h : IntsAt w 149 .u32 s l) (hd : ∀ d ∈ l, d < 4294967296) :
    Calls Tryz.prog 81 #[.slice s.ao s.n s.c] w fun e w' =>
      ∃ t : Sl, e = .returned (.agg #[.slice t.ao t.n t.c]) ∧ NatS w' t (val 4294967296 l) ∧ t.n ≤ s.n ∧ Below w.heap.size w w' := by
  refine (cut_walk s.ao s.n s.c l w h).mono ?_
  rintro e w' ⟨k, hk, rfl, h0, h1, hb⟩
  have hl := h.1
  have hn := norm_take (l := l) (k := k) (by omega) (fun i a b => h0 i a (by omega)) h1 4294967296
  exact ⟨⟨s.ao, k, k⟩, rfl, ⟨l.take k, (h.cut k k hk (Nat.le_refl _) (by have := h.2.1; omega)).up hb, fun d hdm => hd d (List.mem_of_mem_take hdm), hn.1, hn.2⟩, hk, hb⟩

end Go.Proofs.YtlpfkbkpnljieaaGreat

namespace Go.Proofs.YtlpfkbkpnljieaaGreat
open Go.RowKit

set_option maxHeartbeats 400000 in
theorem times_walk (ao : Option Addr) (n c : Nat) (l : List Nat) (w : World) (m r : Nat) (h : IntsAt w 149 .u32 ⟨ao, n, c⟩ l) (hl : ∀ d ∈ l, d < 4294967296) (hm : m < 4294967296) (hr : r < 4294967296) (hn : n ≤ 1000000000000) :
    Calls Tryz.prog 82 #[.slice ao n c, .int .u32 (m : Int), .int .u32 (r : Int)] w fun e w' =>
      ∃ (s : Sl) (o : List Nat), e = .returned (.slice s.ao s.n s.c) ∧ IntsAt w' 149 .u32 s o ∧ (∀ d ∈ o, d < 4294967296) ∧ o.length = n + 1 ∧ val 4294967296 o = val 4294967296 l * m + r ∧ Below w.heap.size w w' := by
  have hop : Hid (0 < n → ∃ b off, ao = some ⟨b, off, none⟩ ∧ b < w.heap.size ∧ ∀ i, i < n → w.cell? ⟨b, off + i, none⟩ = some (.int .u32 ((dg l i : Nat) : Int))) := h.open
  have hlen : Hid (n = l.length) := h.1
  clear h
  have hll : Hid (∀ d ∈ l, d < 4294967296) := hl
  clear hl
  go_enter Tryz.func82, Tryz.ntmps82
  go_wp2_with (at_make; refine wpList_mk rowU32 _ rfl _ _ rfl w.heap.size _ _ _ (n + 1) rfl rfl (by omega) (by omega) (by unfold maxLen; omega) (Nat.le_refl _) ?_; intro v1 w1 ho hb)
  go_loopw [7, 8, 19] (fun v cy i wr => ∃ (k : Nat) (o : List Nat) (q : Nat), k ≤ n ∧ i = .int .i64 k ∧ cy = .int .u64 q ∧ q < 4294967296 ∧ Own wr w.heap.size 149 .u32 v o ∧ Hid (o.length = k) ∧ Hid (∀ d ∈ o, d < 4294967296) ∧ Hid (val 4294967296 o + 4294967296 ^ k * q = val 4294967296 (l.take k) * m + r) ∧ Below w.heap.size w wr) (fun _ _ i _ => n - (intOf i).toNat)
  case atStart => exact ⟨0, [], r, Nat.zero_le _, rfl, rfl, hr, ho, rfl, by unfold Hid; simp, by unfold Hid; simp [val], hb⟩
  case round =>
    obtain ⟨k, o, q, hk, rfl, rfl, hq, hown, hol, hod, hval, hbl⟩ := hrel
    by_cases hlt : k < n
    · obtain ⟨b, off, rfl, hbw, hcell⟩ := hop.out (by omega)
      have hck : wr.cell? ⟨b, off + k, none⟩ = some (.int .u32 ((dg l k : Nat) : Int)) := (hbl.cell (p := ⟨b, off + k, none⟩) hbw).trans (hcell k hlt)
      clear hcell
      have hx : dg l k < 4294967296 := dg_lt hll.out (by omega) k
      generalize hxe : dg l k = x at *
      have HX := Lib.hid hxe; clear hxe
      obtain ⟨hx0, hxm⟩ := mul_lim x m hx hm
      go_wp2_with (at_builtin; refine wpList_push rowU32 _ rfl _ _ rfl w.heap.size u7 o _ ((q + x * m) % 4294967296) rfl rfl hown ?hz ?hl ?hm ?hb ?_)
      case hz => rfl
      case hl => have := hol.out; omega
      case hm => have := hol.out; unfold maxLen; omega
      case hb => exact hbl.size
      intro v' w' hown' hb'
      clear hck
      have hlt2 : (q + x * m) / 4294967296 < 4294967296 := by
        have : x * m ≤ 18446744065119617025 := by have := Nat.mul_le_mul (show x ≤ 4294967295 by omega) (show m ≤ 4294967295 by omega); omega
        omega
      go_wp2
      go_roundw
      case rel => exact ⟨k + 1, o ++ [(q + x * m) % 4294967296], (q + x * m) / 4294967296, by omega, by go_num, rfl, hlt2, hown', by unfold Hid; have := hol.out; simp; omega, snoc_lt hod.out (Nat.mod_lt _ (by omega)), times_step hol.out (by have := hlen.out; omega) HX.out hval.out, hbl.trans hb'⟩
      case measure => simp [intOf]; omega
    · obtain rfl : k = n := by omega
      go_wp2_with (at_builtin; go_loud (refine wpList_push rowU32 _ rfl _ _ rfl w.heap.size u7 o _ q rfl rfl hown ?hz ?hl ?hm ?hb ?_))
      case hz => rfl
      case hl => have := hol.out; omega
      case hm => have := hol.out; unfold maxLen; omega
      case hb => exact hbl.size
      intro v' w' hown' hb'
      obtain ⟨s, rfl, hs⟩ := hown'.ints
      go_wp2
      go_ret
      refine ⟨s, _, rfl, hs, snoc_lt hod.out hq, by have := hol.out; simp; omega, ?_, hbl.trans hb'⟩
      have h1 := hval.out
      rw [val_take_all _ _ _ (by have := hlen.out; omega)] at h1
      rw [val_snoc, hol.out]; exact h1

end Go.Proofs.YtlpfkbkpnljieaaGreat

namespace Go.Proofs.YtlpfkbkpnljieaaGreat
open Go.RowKit

set_option maxHeartbeats 400000 in
theorem by_walk (ao : Option Addr) (n c : Nat) (l : List Nat) (w : World) (d : Nat) (h : IntsAt w 149 .u32 ⟨ao, n, c⟩ l) (hl : ∀ d ∈ l, d < 4294967296) (hd : d < 4294967296) (hd0 : 0 < d) (hn : n ≤ 1000000000000) :
    Calls Tryz.prog 116 #[.slice ao n c, .int .u32 (d : Int)] w fun e w' =>
      ∃ (s : Sl) (o : List Nat) (r : Nat), e = .returned (.tuple #[.slice s.ao s.n s.c, .int .u32 (r : Int)]) ∧ IntsAt w' 149 .u32 s o ∧ (∀ d ∈ o, d < 4294967296) ∧ o.length = n ∧ val 4294967296 l = d * val 4294967296 o + r ∧ r < d ∧ Below w.heap.size w w' := by
  have hop : Hid (0 < n → ∃ b off, ao = some ⟨b, off, none⟩ ∧ b < w.heap.size ∧ ∀ i, i < n → w.cell? ⟨b, off + i, none⟩ = some (.int .u32 ((dg l i : Nat) : Int))) := h.open
  have hlen : Hid (n = l.length) := h.1
  clear h
  have hll : Hid (∀ d ∈ l, d < 4294967296) := hl
  clear hl
  go_enter Tryz.func116, Tryz.ntmps116
  go_wp2_with (at_make; refine wpList_mkfull rowU32 _ rfl _ _ rfl w.heap.size _ _ _ _ n rfl rfl rfl rfl (by omega) (by unfold maxLen; omega) (Nat.le_refl _) ?_; intro w1 ho hb hsz)
  go_loopw [7, 8] (fun r i wr => ∃ (k : Nat) (o : List Nat) (q : Nat), k ≤ n ∧ i = .int .i64 ((k : Int) - 1) ∧ r = .int .u64 q ∧ q < d ∧ Own wr w.heap.size 149 .u32 (.slice (some ⟨w.heap.size, 0, none⟩) n n) o ∧ Hid (o.length = n) ∧ Hid (∀ d ∈ o, d < 4294967296) ∧ Hid (val 4294967296 (l.drop k) = d * val 4294967296 (o.drop k) + q) ∧ Below w.heap.size w wr) (fun _ i _ => (intOf i + 1).toNat)
  case atStart => exact ⟨n, List.replicate n 0, 0, Nat.le_refl _, rfl, rfl, hd0, ho, by unfold Hid; simp, by unfold Hid; simp, by unfold Hid; have := hlen.out; simp [val, this], hb⟩
  case round =>
    obtain ⟨k, o, q, hk, rfl, rfl, hq, hown, hol, hod, hval, hbl⟩ := hrel
    by_cases hlt : 0 < k
    · obtain ⟨b, off, rfl, hbw, hcell⟩ := hop.out (by omega)
      obtain ⟨j, rfl⟩ : ∃ j, k = j + 1 := ⟨k - 1, by omega⟩
      have hck : wr.cell? ⟨b, off + j, none⟩ = some (.int .u32 ((dg l j : Nat) : Int)) := (hbl.cell (p := ⟨b, off + j, none⟩) hbw).trans (hcell j (by omega))
      clear hcell
      have hx : dg l j < 4294967296 := dg_lt hll.out (by omega) j
      generalize hxe : dg l j = x at *
      have HX := Lib.hid hxe; clear hxe
      have hj1 : j < l.length := by have := hlen.out; omega
      have hol' : o.length = n := hol.out
      have hstep := Lib.hid (by_step (B := 4294967296) hj1 (by rw [hlen.out.symm, hol']) HX.out hval.out)
      have hbo := or_join q x (by omega) hx
      generalize hN : q * 4294967296 + x = N at *
      have hN1 : N / d < 4294967296 := by rw [← hN]; exact div_limb hq hx
      have hN2 : N % d < d := Nat.mod_lt _ hd0
      have hN3 : N < 18446744073709551616 := by rw [← hN]; omega
      clear hN hol'
      have hw1 : IntKind.u64.wrap ((N : Int) / (d : Int)) = ((N / d : Nat) : Int) := by
        rw [← Int.natCast_ediv]
        generalize N / d = u at *
        exact IntWalk.u64_in _ (by omega)
      generalize N / d = u at *
      have hst := hown.store j u
      obtain ⟨hoc, hof, _, _⟩ := hown.slot j (by have := hol.out; omega)
      go_wp2
      go_roundw
      case rel => exact ⟨j, o.set j u, N % d, by omega, rfl, by go_num, hN2, hst.1, by unfold Hid; rw [List.length_set]; exact hol.out, set_lt hod.out hN1, hstep.out, hbl.trans hst.2⟩
      case measure => simp [intOf]
    · obtain rfl : k = 0 := by omega
      obtain ⟨s, hs, hsi⟩ := hown.ints
      go_wp2
      go_ret2
      exact ⟨s, o, q, by rw [hs]; rfl, hsi, hod.out, hol.out, by simpa using hval.out, hq, hbl⟩

end Go.Proofs.YtlpfkbkpnljieaaGreat

namespace Go.Proofs.YtlpfkbkpnljieaaGreat
open Go.RowKit

set_option maxHeartbeats 800000 in
theorem add_walk1 (ao bo : Option Addr) (n m c d : Nat) (l r : List Nat) (w : World) (h : IntsAt w 149 .u32 ⟨ao, n, c⟩ l) (h' : IntsAt w 149 .u32 ⟨bo, m, d⟩ r) (hl : ∀ d ∈ l, d < 4294967296) (hr : ∀ d ∈ r, d < 4294967296) (hn : n ≤ 1000000000000) (hm : m ≤ 1000000000000) (hmn : m ≤ n) :
    Calls Tryz.prog 124 #[.agg #[.slice ao n c], .agg #[.slice bo m d]] w fun e w' =>
      ∃ (s : Sl), e = .returned (.agg #[.slice s.ao s.n s.c]) ∧ NatS w' s (val 4294967296 l + val 4294967296 r) ∧ s.n ≤ n + 1 ∧ Below w.heap.size w w' := by
  have hop : Hid (0 < n → ∃ b off, ao = some ⟨b, off, none⟩ ∧ b < w.heap.size ∧ ∀ i, i < n → w.cell? ⟨b, off + i, none⟩ = some (.int .u32 ((dg l i : Nat) : Int))) := h.open
  have hop' : Hid (0 < m → ∃ b off, bo = some ⟨b, off, none⟩ ∧ b < w.heap.size ∧ ∀ i, i < m → w.cell? ⟨b, off + i, none⟩ = some (.int .u32 ((dg r i : Nat) : Int))) := h'.open
  have hlen : Hid (n = l.length) := h.1
  have hlen' : Hid (m = r.length) := h'.1
  clear h h'
  have hll : Hid (∀ d ∈ l, d < 4294967296) := hl
  have hrr : Hid (∀ d ∈ r, d < 4294967296) := hr
  clear hl hr
  go_enter Tryz.func124, Tryz.ntmps124
  go_wp2_with (at_make; refine wpList_mk rowU32 _ rfl _ _ rfl (w.heap.size + 3) _ _ _ (n + 1) rfl rfl (by omega) (by omega) (by unfold maxLen; omega) (by simp) ?_; intro v1 w1 ho hb; have hA1 := ent_cell (ent_below hb (by omega) (ents3 w _ _ _).1) 0)
  have hbw : Below w.heap.size w w1 := ((((Below.refl _ _).alloc (Nat.le_refl _) _).alloc (by simp) _).alloc (by simp; omega) _).trans (hb.mono (by omega))
  have hE2 := ent_below hb (by omega) (ents3 w _ _ _).2.1
  have hE3 := ent_below hb (by omega) (ents3 w _ _ _).2.2.1
  go_loopw [5, 6, 26] (fun v cy i wr => ∃ (k : Nat) (o : List Nat) (q : Nat), k ≤ n ∧ i = .int .i64 k ∧ cy = .int .u64 q ∧ q ≤ 1 ∧ Own wr (w.heap.size + 3) 149 .u32 v o ∧ Hid (o.length = k) ∧ Hid (∀ d ∈ o, d < 4294967296) ∧ Hid (val 4294967296 o + 4294967296 ^ k * q = val 4294967296 (l.take k) + val 4294967296 (r.take k)) ∧ Below (w.heap.size + 3) w1 wr) (fun _ _ i _ => n - (intOf i).toNat)
  case atStart => exact ⟨0, [], 0, Nat.zero_le _, rfl, rfl, by omega, ho, rfl, by unfold Hid; simp, by unfold Hid; simp [val], Below.refl _ _⟩
  case round =>
    obtain ⟨k, o, q, hk, rfl, rfl, hq, hown, hol, hod, hval, hbl⟩ := hrel
    have hB := ent_cell (ent_below hbl (by omega) hE2) 0
    have hws : w.heap.size + 3 ≤ wr.heap.size := by have := hbl.size; have := hb.size; simp at this; omega
    by_cases hlt : k < n
    · obtain ⟨b, off, rfl, hbw0, hcell⟩ := hop.out (by omega)
      have hck : wr.cell? ⟨b, off + k, none⟩ = some (.int .u32 ((dg l k : Nat) : Int)) := ((hbl.cell (p := ⟨b, off + k, none⟩) (by simp; omega)).trans (hbw.cell (p := ⟨b, off + k, none⟩) hbw0)).trans (hcell k hlt)
      clear hcell
      have hx : dg l k < 4294967296 := dg_lt hll.out (by omega) k
      by_cases hltm : k < m
      · obtain ⟨b', off', rfl, hbw0', hcell'⟩ := hop'.out (by omega)
        have hck' : wr.cell? ⟨b', off' + k, none⟩ = some (.int .u32 ((dg r k : Nat) : Int)) := ((hbl.cell (p := ⟨b', off' + k, none⟩) (by simp; omega)).trans (hbw.cell (p := ⟨b', off' + k, none⟩) hbw0')).trans (hcell' k hltm)
        clear hcell'
        have hy : dg r k < 4294967296 := dg_lt hrr.out (by omega) k
        have hstep := Lib.hid (add_step (z := q + dg l k + dg r k) hol.out rfl rfl rfl hval.out)
        generalize dg l k = x at *
        generalize dg r k = y at *
        go_wp2_with (at_builtin; refine wpList_push rowU32 _ rfl _ _ rfl (w.heap.size + 3) u5 o _ ((q + x + y) % 4294967296) rfl rfl hown ?hz ?hl ?hm ?hb ?_)
        case hz => rfl
        case hl => have := hol.out; omega
        case hm => have := hol.out; unfold maxLen; omega
        case hb => exact hws
        intro v' w' hown' hb'
        clear hck hck' hB
        go_wp2
        go_roundw
        case rel => exact ⟨k + 1, _, (q + x + y) / 4294967296, by omega, by go_num, rfl, by omega, hown', by unfold Hid; have := hol.out; simp; omega, snoc_lt hod.out (Nat.mod_lt _ (by omega)), hstep.out, hbl.trans hb'⟩
        case measure => simp [intOf]; omega
      · have hstep := Lib.hid (add_step (z := q + dg l k) (y := 0) (r := r) hol.out rfl (dg_big (by have := hlen'.out; omega)) rfl hval.out)
        generalize dg l k = x at *
        go_wp2_with (at_builtin; refine wpList_push rowU32 _ rfl _ _ rfl (w.heap.size + 3) u5 o _ ((q + x) % 4294967296) rfl rfl hown ?hz' ?hl' ?hm' ?hb' ?_)
        case hz' => rfl
        case hl' => have := hol.out; omega
        case hm' => have := hol.out; unfold maxLen; omega
        case hb' => exact hws
        intro v' w' hown' hb'
        clear hck hB
        go_wp2
        go_roundw
        case rel => exact ⟨k + 1, _, (q + x) / 4294967296, by omega, by go_num, rfl, by omega, hown', by unfold Hid; have := hol.out; simp; omega, snoc_lt hod.out (Nat.mod_lt _ (by omega)), hstep.out, hbl.trans hb'⟩
        case measure => simp [intOf]; omega
    · have hkn : Hid (k = n) := by unfold Hid; omega
      go_wp2_with (at_builtin; refine wpList_push rowU32 _ rfl _ _ rfl (w.heap.size + 3) u5 o _ q rfl rfl hown ?hz2 ?hl2 ?hm2 ?hb2 ?_)
      case hz2 => rfl
      case hl2 => have := hol.out; omega
      case hm2 => have := hol.out; unfold maxLen; omega
      case hb2 => exact hws
      intro v' w' hown' hb'
      obtain ⟨s, rfl, hs⟩ := hown'.ints
      have hsd := Lib.hid (snoc_lt hod.out (show q < 4294967296 by omega))
      clear hB
      go_wp2_with (go_at_call 81; refine (cut_spec hs hsd.out).mono ?_; rintro e w2 ⟨t, rfl, ht, htn, hb2⟩; have hE3' := ent_up hb2 (ent_below hb' (by omega) (ent_below hbl (by omega) hE3)); have hR := ent_cell hE3' 0; have hRf := ent_frozen hE3' 0)
      refine bodyPost_ret (v := .agg #[.slice t.ao t.n t.c]) (by simp [results, Tryz.results124, go_sem, hR]) rfl ⟨t, rfl, ?_, ?_, ?_⟩
      · have e : val 4294967296 (o ++ [q]) = val 4294967296 l + val 4294967296 r := by
          have h1 := hval.out
          rw [val_take_all _ l _ (by have := hlen.out; have := hkn.out; omega), val_take_all _ r _ (by have := hlen'.out; have := hkn.out; omega)] at h1
          rw [val_snoc, hol.out]; exact h1
        rw [← e]
        exact ht.kp ((Kp.refl _).setCell hE3' (by decide) _)
      · have := hs.1; have := hol.out; have := hkn.out; simp at *; omega
      · exact (((hbw.trans (hbl.mono (by omega))).trans (hb'.mono (by omega))).trans (hb2.mono (by have := hb'.size; omega))).setCell (by simp; omega) _
set_option maxHeartbeats 800000 in
theorem add_walk2 (ao bo : Option Addr) (n m c d : Nat) (l r : List Nat) (w : World) (h : IntsAt w 149 .u32 ⟨ao, n, c⟩ l) (h' : IntsAt w 149 .u32 ⟨bo, m, d⟩ r) (hl : ∀ d ∈ l, d < 4294967296) (hr : ∀ d ∈ r, d < 4294967296) (hn : n ≤ 1000000000000) (hm : m ≤ 1000000000000) (hmn : m < n) :
    Calls Tryz.prog 124 #[.agg #[.slice bo m d], .agg #[.slice ao n c]] w fun e w' =>
      ∃ (s : Sl), e = .returned (.agg #[.slice s.ao s.n s.c]) ∧ NatS w' s (val 4294967296 l + val 4294967296 r) ∧ s.n ≤ n + 1 ∧ Below w.heap.size w w' := by
  have hop : Hid (0 < n → ∃ b off, ao = some ⟨b, off, none⟩ ∧ b < w.heap.size ∧ ∀ i, i < n → w.cell? ⟨b, off + i, none⟩ = some (.int .u32 ((dg l i : Nat) : Int))) := h.open
  have hop' : Hid (0 < m → ∃ b off, bo = some ⟨b, off, none⟩ ∧ b < w.heap.size ∧ ∀ i, i < m → w.cell? ⟨b, off + i, none⟩ = some (.int .u32 ((dg r i : Nat) : Int))) := h'.open
  have hlen : Hid (n = l.length) := h.1
  have hlen' : Hid (m = r.length) := h'.1
  clear h h'
  have hll : Hid (∀ d ∈ l, d < 4294967296) := hl
  have hrr : Hid (∀ d ∈ r, d < 4294967296) := hr
  clear hl hr
  go_enter Tryz.func124, Tryz.ntmps124
  go_wp2_with (at_make; refine wpList_mk rowU32 _ rfl _ _ rfl (w.heap.size + 3) _ _ _ (n + 1) rfl rfl (by omega) (by omega) (by unfold maxLen; omega) (by simp) ?_; intro v1 w1 ho hb; have hA1 := ent_cell (ent_below hb (by omega) (ents3 w _ _ _).1) 0)
  have hbw : Below w.heap.size w w1 := ((((Below.refl _ _).alloc (Nat.le_refl _) _).alloc (by simp) _).alloc (by simp; omega) _).trans (hb.mono (by omega))
  have hE2 := ent_below hb (by omega) (ents3 w _ _ _).2.1
  have hE3 := ent_below hb (by omega) (ents3 w _ _ _).2.2.1
  go_loopw [5, 6, 26] (fun v cy i wr => ∃ (k : Nat) (o : List Nat) (q : Nat), k ≤ n ∧ i = .int .i64 k ∧ cy = .int .u64 q ∧ q ≤ 1 ∧ Own wr (w.heap.size + 3) 149 .u32 v o ∧ Hid (o.length = k) ∧ Hid (∀ d ∈ o, d < 4294967296) ∧ Hid (val 4294967296 o + 4294967296 ^ k * q = val 4294967296 (l.take k) + val 4294967296 (r.take k)) ∧ Below (w.heap.size + 3) w1 wr) (fun _ _ i _ => n - (intOf i).toNat)
  case atStart => exact ⟨0, [], 0, Nat.zero_le _, rfl, rfl, by omega, ho, rfl, by unfold Hid; simp, by unfold Hid; simp [val], Below.refl _ _⟩
  case round =>
    obtain ⟨k, o, q, hk, rfl, rfl, hq, hown, hol, hod, hval, hbl⟩ := hrel
    have hB := ent_cell (ent_below hbl (by omega) hE2) 0
    have hws : w.heap.size + 3 ≤ wr.heap.size := by have := hbl.size; have := hb.size; simp at this; omega
    by_cases hlt : k < n
    · obtain ⟨b, off, rfl, hbw0, hcell⟩ := hop.out (by omega)
      have hck : wr.cell? ⟨b, off + k, none⟩ = some (.int .u32 ((dg l k : Nat) : Int)) := ((hbl.cell (p := ⟨b, off + k, none⟩) (by simp; omega)).trans (hbw.cell (p := ⟨b, off + k, none⟩) hbw0)).trans (hcell k hlt)
      clear hcell
      have hx : dg l k < 4294967296 := dg_lt hll.out (by omega) k
      by_cases hltm : k < m
      · obtain ⟨b', off', rfl, hbw0', hcell'⟩ := hop'.out (by omega)
        have hck' : wr.cell? ⟨b', off' + k, none⟩ = some (.int .u32 ((dg r k : Nat) : Int)) := ((hbl.cell (p := ⟨b', off' + k, none⟩) (by simp; omega)).trans (hbw.cell (p := ⟨b', off' + k, none⟩) hbw0')).trans (hcell' k hltm)
        clear hcell'
        have hy : dg r k < 4294967296 := dg_lt hrr.out (by omega) k
        have hstep := Lib.hid (add_step (z := q + dg l k + dg r k) hol.out rfl rfl rfl hval.out)
        generalize dg l k = x at *
        generalize dg r k = y at *
        go_wp2_with (at_builtin; refine wpList_push rowU32 _ rfl _ _ rfl (w.heap.size + 3) u5 o _ ((q + x + y) % 4294967296) rfl rfl hown ?hz ?hl ?hm ?hb ?_)
        case hz => rfl
        case hl => have := hol.out; omega
        case hm => have := hol.out; unfold maxLen; omega
        case hb => exact hws
        intro v' w' hown' hb'
        clear hck hck' hB
        go_wp2
        go_roundw
        case rel => exact ⟨k + 1, _, (q + x + y) / 4294967296, by omega, by go_num, rfl, by omega, hown', by unfold Hid; have := hol.out; simp; omega, snoc_lt hod.out (Nat.mod_lt _ (by omega)), hstep.out, hbl.trans hb'⟩
        case measure => simp [intOf]; omega
      · have hstep := Lib.hid (add_step (z := q + dg l k) (y := 0) (r := r) hol.out rfl (dg_big (by have := hlen'.out; omega)) rfl hval.out)
        generalize dg l k = x at *
        go_wp2_with (at_builtin; refine wpList_push rowU32 _ rfl _ _ rfl (w.heap.size + 3) u5 o _ ((q + x) % 4294967296) rfl rfl hown ?hz' ?hl' ?hm' ?hb' ?_)
        case hz' => rfl
        case hl' => have := hol.out; omega
        case hm' => have := hol.out; unfold maxLen; omega
        case hb' => exact hws
        intro v' w' hown' hb'
        clear hck hB
        go_wp2
        go_roundw
        case rel => exact ⟨k + 1, _, (q + x) / 4294967296, by omega, by go_num, rfl, by omega, hown', by unfold Hid; have := hol.out; simp; omega, snoc_lt hod.out (Nat.mod_lt _ (by omega)), hstep.out, hbl.trans hb'⟩
        case measure => simp [intOf]; omega
    · have hkn : Hid (k = n) := by unfold Hid; omega
      go_wp2_with (at_builtin; refine wpList_push rowU32 _ rfl _ _ rfl (w.heap.size + 3) u5 o _ q rfl rfl hown ?hz2 ?hl2 ?hm2 ?hb2 ?_)
      case hz2 => rfl
      case hl2 => have := hol.out; omega
      case hm2 => have := hol.out; unfold maxLen; omega
      case hb2 => exact hws
      intro v' w' hown' hb'
      obtain ⟨s, rfl, hs⟩ := hown'.ints
      have hsd := Lib.hid (snoc_lt hod.out (show q < 4294967296 by omega))
      clear hB
      go_wp2_with (go_at_call 81; refine (cut_spec hs hsd.out).mono ?_; rintro e w2 ⟨t, rfl, ht, htn, hb2⟩; have hE3' := ent_up hb2 (ent_below hb' (by omega) (ent_below hbl (by omega) hE3)); have hR := ent_cell hE3' 0; have hRf := ent_frozen hE3' 0)
      refine bodyPost_ret (v := .agg #[.slice t.ao t.n t.c]) (by simp [results, Tryz.results124, go_sem, hR]) rfl ⟨t, rfl, ?_, ?_, ?_⟩
      · have e : val 4294967296 (o ++ [q]) = val 4294967296 l + val 4294967296 r := by
          have h1 := hval.out
          rw [val_take_all _ l _ (by have := hlen.out; have := hkn.out; omega), val_take_all _ r _ (by have := hlen'.out; have := hkn.out; omega)] at h1
          rw [val_snoc, hol.out]; exact h1
        rw [← e]
        exact ht.kp ((Kp.refl _).setCell hE3' (by decide) _)
      · have := hs.1; have := hol.out; have := hkn.out; simp at *; omega
      · exact (((hbw.trans (hbl.mono (by omega))).trans (hb'.mono (by omega))).trans (hb2.mono (by have := hb'.size; omega))).setCell (by simp; omega) _
/-- The sum. -/
theorem add_spec {w : World} {s t : Sl} {x y : Nat} (h : NatS w s x) (h' : NatS w t y) (hn : s.n ≤ 1000000000000) (hm : t.n ≤ 1000000000000) :
    Calls Tryz.prog 124 #[.agg #[.slice s.ao s.n s.c], .agg #[.slice t.ao t.n t.c]] w fun e w' =>
      ∃ u : Sl, e = .returned (.agg #[.slice u.ao u.n u.c]) ∧ NatS w' u (x + y) ∧ u.n ≤ max s.n t.n + 1 ∧ Below w.heap.size w w' := by
  obtain ⟨l, h1, h2, h3, h4⟩ := h
  obtain ⟨r, g1, g2, g3, g4⟩ := h'
  subst h4
  subst g4
  rcases Nat.lt_or_ge s.n t.n with hc | hc
  · refine (add_walk2 t.ao s.ao t.n s.n t.c s.c r l w g1 h1 g2 h2 hm hn hc).mono ?_
    rintro e w' ⟨u, rfl, hu, hun, hb⟩
    exact ⟨u, rfl, by rw [Nat.add_comm]; exact hu, by omega, hb⟩
  · refine (add_walk1 s.ao t.ao s.n t.n s.c t.c l r w h1 g1 h2 g2 hn hm hc).mono ?_
    rintro e w' ⟨u, rfl, hu, hun, hb⟩
    exact ⟨u, rfl, hu, by omega, hb⟩

end Go.Proofs.YtlpfkbkpnljieaaGreat

namespace Go.Proofs.YtlpfkbkpnljieaaGreat
open Go.RowKit

set_option maxHeartbeats 800000 in
theorem less_walk (ao bo : Option Addr) (n m c d : Nat) (l r : List Nat) (w : World) (h : IntsAt w 149 .u32 ⟨ao, n, c⟩ l) (h' : IntsAt w 149 .u32 ⟨bo, m, d⟩ r) (hl : ∀ d ∈ l, d < 4294967296) (hr : ∀ d ∈ r, d < 4294967296) (hn : n ≤ 1000000000000) (hm : m ≤ 1000000000000) (hmn : m ≤ n) (hv : val 4294967296 r ≤ val 4294967296 l) :
    Calls Tryz.prog 135 #[.agg #[.slice ao n c], .agg #[.slice bo m d]] w fun e w' =>
      ∃ (s : Sl), e = .returned (.agg #[.slice s.ao s.n s.c]) ∧ NatS w' s (val 4294967296 l - val 4294967296 r) ∧ s.n ≤ n ∧ Below w.heap.size w w' := by
  have hop : Hid (0 < n → ∃ b off, ao = some ⟨b, off, none⟩ ∧ b < w.heap.size ∧ ∀ i, i < n → w.cell? ⟨b, off + i, none⟩ = some (.int .u32 ((dg l i : Nat) : Int))) := h.open
  have hop' : Hid (0 < m → ∃ b off, bo = some ⟨b, off, none⟩ ∧ b < w.heap.size ∧ ∀ i, i < m → w.cell? ⟨b, off + i, none⟩ = some (.int .u32 ((dg r i : Nat) : Int))) := h'.open
  have hlen : Hid (n = l.length) := h.1
  have hlen' : Hid (m = r.length) := h'.1
  clear h h'
  have hll : Hid (∀ d ∈ l, d < 4294967296) := hl
  have hrr : Hid (∀ d ∈ r, d < 4294967296) := hr
  clear hl hr
  have hvv := Lib.hid hv; clear hv
  go_enter Tryz.func135, Tryz.ntmps135
  go_wp2_with (at_make; refine wpList_mk rowU32 _ rfl _ _ rfl (w.heap.size + 3) _ _ _ n rfl rfl rfl (by omega) (by unfold maxLen; omega) (by simp) ?_; intro v1 w1 ho hb; have hA1 := ent_cell (ent_below hb (by omega) (ents3 w _ _ _).1) 0)
  have hbw : Below w.heap.size w w1 := ((((Below.refl _ _).alloc (Nat.le_refl _) _).alloc (by simp) _).alloc (by simp; omega) _).trans (hb.mono (by omega))
  have hE2 := ent_below hb (by omega) (ents3 w _ _ _).2.1
  have hE3 := ent_below hb (by omega) (ents3 w _ _ _).2.2.1
  go_loopw [5, 6, 17] (fun v cy i wr => ∃ (k : Nat) (o : List Nat) (q : Nat), k ≤ n ∧ i = .int .i64 k ∧ cy = .int .i64 q ∧ q ≤ 1 ∧ Own wr (w.heap.size + 3) 149 .u32 v o ∧ Hid (o.length = k) ∧ Hid (∀ d ∈ o, d < 4294967296) ∧ Hid (val 4294967296 (l.take k) + 4294967296 ^ k * q = val 4294967296 o + val 4294967296 (r.take k)) ∧ Below (w.heap.size + 3) w1 wr) (fun _ _ i _ => n - (intOf i).toNat)
  case atStart => exact ⟨0, [], 0, Nat.zero_le _, rfl, rfl, by omega, ho, rfl, by unfold Hid; simp, by unfold Hid; simp [val], Below.refl _ _⟩
  case round =>
    obtain ⟨k, o, q, hk, rfl, rfl, hq, hown, hol, hod, hval, hbl⟩ := hrel
    have hB := ent_cell (ent_below hbl (by omega) hE2) 0
    have hws : w.heap.size + 3 ≤ wr.heap.size := by have := hbl.size; have := hb.size; simp at this; omega
    by_cases hlt : k < n
    · obtain ⟨b, off, rfl, hbw0, hcell⟩ := hop.out (by omega)
      have hck : wr.cell? ⟨b, off + k, none⟩ = some (.int .u32 ((dg l k : Nat) : Int)) := ((hbl.cell (p := ⟨b, off + k, none⟩) (by simp; omega)).trans (hbw.cell (p := ⟨b, off + k, none⟩) hbw0)).trans (hcell k hlt)
      clear hcell
      have hx : dg l k < 4294967296 := dg_lt hll.out (by omega) k
      by_cases hltm : k < m
      · obtain ⟨b', off', rfl, hbw0', hcell'⟩ := hop'.out (by omega)
        have hck' : wr.cell? ⟨b', off' + k, none⟩ = some (.int .u32 ((dg r k : Nat) : Int)) := ((hbl.cell (p := ⟨b', off' + k, none⟩) (by simp; omega)).trans (hbw.cell (p := ⟨b', off' + k, none⟩) hbw0')).trans (hcell' k hltm)
        clear hcell'
        have hy : dg r k < 4294967296 := dg_lt hrr.out (by omega) k
        by_cases hneg : dg l k < q + dg r k
        · have hstep := Lib.hid (less_step2 (B := 4294967296) (x := dg l k) (y := dg r k) (r := r) hol.out rfl rfl (by omega) hval.out)
          generalize dg l k = x at *
          generalize dg r k = y at *
          go_wp2_with (at_builtin; refine wpList_push rowU32 _ rfl _ _ rfl (w.heap.size + 3) u5 o _ (x + 4294967296 - (q + y)) rfl rfl hown ?hza ?hla ?hma ?hba ?_)
          case hza => omega
          case hla => have := hol.out; omega
          case hma => have := hol.out; unfold maxLen; omega
          case hba => exact hws
          intro v' w' hown' hb'
          clear hck hck' hB
          go_wp2
          go_roundw
          case rel => exact ⟨k + 1, _, 1, by omega, by go_num, rfl, by omega, hown', by unfold Hid; have := hol.out; simp; omega, snoc_lt hod.out (by omega), hstep.out, hbl.trans hb'⟩
          case measure => simp [intOf]; omega
        · have hstep := Lib.hid (less_step1 (B := 4294967296) (x := dg l k) (y := dg r k) (r := r) hol.out rfl rfl (by omega) hval.out)
          generalize dg l k = x at *
          generalize dg r k = y at *
          go_wp2_with (at_builtin; refine wpList_push rowU32 _ rfl _ _ rfl (w.heap.size + 3) u5 o _ (x - (q + y)) rfl rfl hown ?hzb ?hlb ?hmb ?hbb ?_)
          case hzb => omega
          case hlb => have := hol.out; omega
          case hmb => have := hol.out; unfold maxLen; omega
          case hbb => exact hws
          intro v' w' hown' hb'
          clear hck hck' hB
          go_wp2
          go_roundw
          case rel => exact ⟨k + 1, _, 0, by omega, by go_num, rfl, by omega, hown', by unfold Hid; have := hol.out; simp; omega, snoc_lt hod.out (by omega), hstep.out, hbl.trans hb'⟩
          case measure => simp [intOf]; omega
      · by_cases hneg : dg l k < q
        · have hstep := Lib.hid (less_step2 (B := 4294967296) (x := dg l k) (y := 0) (r := r) hol.out rfl (dg_big (by have := hlen'.out; omega)) (by omega) hval.out)
          generalize dg l k = x at *
          go_wp2_with (at_builtin; refine wpList_push rowU32 _ rfl _ _ rfl (w.heap.size + 3) u5 o _ (x + 4294967296 - (q + 0)) rfl rfl hown ?hzc ?hlc ?hmc ?hbc ?_)
          case hzc => omega
          case hlc => have := hol.out; omega
          case hmc => have := hol.out; unfold maxLen; omega
          case hbc => exact hws
          intro v' w' hown' hb'
          clear hck hB
          go_wp2
          go_roundw
          case rel => exact ⟨k + 1, _, 1, by omega, by go_num, rfl, by omega, hown', by unfold Hid; have := hol.out; simp; omega, snoc_lt hod.out (by omega), hstep.out, hbl.trans hb'⟩
          case measure => simp [intOf]; omega
        · have hstep := Lib.hid (less_step1 (B := 4294967296) (x := dg l k) (y := 0) (r := r) hol.out rfl (dg_big (by have := hlen'.out; omega)) (by omega) hval.out)
          generalize dg l k = x at *
          go_wp2_with (at_builtin; refine wpList_push rowU32 _ rfl _ _ rfl (w.heap.size + 3) u5 o _ (x - (q + 0)) rfl rfl hown ?hzd ?hld ?hmd ?hbd ?_)
          case hzd => omega
          case hld => have := hol.out; omega
          case hmd => have := hol.out; unfold maxLen; omega
          case hbd => exact hws
          intro v' w' hown' hb'
          clear hck hB
          go_wp2
          go_roundw
          case rel => exact ⟨k + 1, _, 0, by omega, by go_num, rfl, by omega, hown', by unfold Hid; have := hol.out; simp; omega, snoc_lt hod.out (by omega), hstep.out, hbl.trans hb'⟩
          case measure => simp [intOf]; omega
    · have hkn : Hid (k = n) := by unfold Hid; omega
      obtain ⟨s, rfl, hs⟩ := hown.ints
      clear hB
      go_wp2_with (go_at_call 81; refine (cut_spec hs hod.out).mono ?_; rintro e w2 ⟨t, rfl, ht, htn, hb2⟩; have hE3' := ent_up hb2 (ent_below hbl (by omega) hE3); have hR := ent_cell hE3' 0; have hRf := ent_frozen hE3' 0)
      refine bodyPost_ret (v := .agg #[.slice t.ao t.n t.c]) (by simp [results, Tryz.results135, go_sem, hR]) rfl ⟨t, rfl, ?_, ?_, ?_⟩
      · have e : val 4294967296 o = val 4294967296 l - val 4294967296 r := by
          have h1 := hval.out
          rw [val_take_all _ l _ (by have := hlen.out; have := hkn.out; omega), val_take_all _ r _ (by have := hlen'.out; have := hkn.out; omega)] at h1
          exact less_end hod.out hol.out hvv.out h1
        rw [← e]
        exact ht.kp ((Kp.refl _).setCell hE3' (by decide) _)
      · have := hs.1; have := hol.out; have := hkn.out; simp at *; omega
      · exact ((hbw.trans (hbl.mono (by omega))).trans (hb2.mono (by omega))).setCell (by simp; omega) _

/-- The difference. -/
theorem less_spec {w : World} {s t : Sl} {x y : Nat} (h : NatS w s x) (h' : NatS w t y) (hn : s.n ≤ 1000000000000) (hxy : y ≤ x) :
    Calls Tryz.prog 135 #[.agg #[.slice s.ao s.n s.c], .agg #[.slice t.ao t.n t.c]] w fun e w' =>
      ∃ u : Sl, e = .returned (.agg #[.slice u.ao u.n u.c]) ∧ NatS w' u (x - y) ∧ u.n ≤ s.n ∧ Below w.heap.size w w' := by
  have hts := h'.n_le h hxy
  obtain ⟨l, h1, h2, h3, h4⟩ := h
  obtain ⟨r, g1, g2, g3, g4⟩ := h'
  subst h4
  subst g4
  exact less_walk s.ao t.ao s.n t.n s.c t.c l r w h1 g1 h2 g2 hn (by omega) hts hxy

end Go.Proofs.YtlpfkbkpnljieaaGreat

namespace Go.Proofs.YtlpfkbkpnljieaaGreat
open Go.RowKit

set_option maxHeartbeats 800000 in
theorem cmp_walk (ao bo : Option Addr) (n m c d : Nat) (l r : List Nat) (w : World) (h : IntsAt w 149 .u32 ⟨ao, n, c⟩ l) (h' : IntsAt w 149 .u32 ⟨bo, m, d⟩ r) (hl : ∀ d ∈ l, d < 4294967296) (hr : ∀ d ∈ r, d < 4294967296) (hn : n ≤ 1000000000000) (hm : m ≤ 1000000000000) (nl : Norm l) (nr : Norm r) :
    Calls Tryz.prog 94 #[.agg #[.slice ao n c], .agg #[.slice bo m d]] w fun e w' =>
      e = .returned (.int .i64 (cmpN (val 4294967296 l) (val 4294967296 r))) ∧ Below w.heap.size w w' := by
  have hop : Hid (0 < n → ∃ b off, ao = some ⟨b, off, none⟩ ∧ b < w.heap.size ∧ ∀ i, i < n → w.cell? ⟨b, off + i, none⟩ = some (.int .u32 ((dg l i : Nat) : Int))) := h.open
  have hop' : Hid (0 < m → ∃ b off, bo = some ⟨b, off, none⟩ ∧ b < w.heap.size ∧ ∀ i, i < m → w.cell? ⟨b, off + i, none⟩ = some (.int .u32 ((dg r i : Nat) : Int))) := h'.open
  have hlen : Hid (n = l.length) := h.1
  have hlen' : Hid (m = r.length) := h'.1
  clear h h'
  have hll : Hid (∀ d ∈ l, d < 4294967296) := hl
  have hrr : Hid (∀ d ∈ r, d < 4294967296) := hr
  have hnl := Lib.hid nl
  have hnr := Lib.hid nr
  clear hl hr nl nr
  have hbx : Below w.heap.size w ((w.alloc (.cells #[.slice ao n c] 25)).alloc (.cells #[.slice bo m d] 25)) := ((Below.refl _ _).alloc (Nat.le_refl _) _).alloc (by simp) _
  rcases Nat.lt_trichotomy n m with hc | hc | hc
  · have hres := Lib.hid (cmpN_lt (hnr.out.len_lt (B := 4294967296) (l := l) (by omega) hll.out (by have := hlen.out; have := hlen'.out; omega)))
    go_enter Tryz.func94, Tryz.ntmps94
    go_wp2
    go_ret
    exact ⟨by rw [hres.out]; rfl, hbx⟩
  · subst hc
    obtain ⟨hE1, hE2, hWs⟩ := ents2 w (.cells #[.slice ao n c] 25) (.cells #[.slice bo n d] 25)
    generalize hW : ((w.alloc (.cells #[.slice ao n c] 25)).alloc (.cells #[.slice bo n d] 25)) = W at hbx hE1 hE2 hWs
    have HWs := Lib.hid hWs; clear hWs
    have HW := Lib.hid hW; clear hW
    go_enter Tryz.func94, Tryz.ntmps94
    go_wp2
    rw [HW.out]
    go_loopw [5] (fun i wr => ∃ k : Nat, k ≤ n ∧ i = .int .i64 ((k : Int) - 1) ∧ Hid (∀ j, k ≤ j → j < n → dg l j = dg r j) ∧ Below (w.heap.size + 2) W wr) (fun i _ => (intOf i + 1).toNat)
    case atStart => exact ⟨n, Nat.le_refl _, rfl, by unfold Hid; intro j a b; omega, Below.refl _ _⟩
    case round =>
      obtain ⟨k, hk, rfl, heq, hbl⟩ := hrel
      by_cases hlt : 0 < k
      · obtain ⟨j, rfl⟩ : ∃ j, k = j + 1 := ⟨k - 1, by omega⟩
        obtain ⟨b, off, rfl, hbw0, hcell⟩ := hop.out (by omega)
        obtain ⟨b', off', rfl, hbw0', hcell'⟩ := hop'.out (by omega)
        have hA := ent_cell (ent_below hbl (by omega) hE1) 0
        have hB := ent_cell (ent_below hbl (by omega) hE2) 0
        have hck : wr.cell? ⟨b, off + j, none⟩ = some (.int .u32 ((dg l j : Nat) : Int)) := ((hbl.cell (p := ⟨b, off + j, none⟩) (by simp; omega)).trans (hbx.cell (p := ⟨b, off + j, none⟩) hbw0)).trans (hcell j (by omega))
        have hck' : wr.cell? ⟨b', off' + j, none⟩ = some (.int .u32 ((dg r j : Nat) : Int)) := ((hbl.cell (p := ⟨b', off' + j, none⟩) (by simp; omega)).trans (hbx.cell (p := ⟨b', off' + j, none⟩) hbw0')).trans (hcell' j (by omega))
        clear hcell hcell'
        have hj1 : (0 : Int) ≤ (j : Int) := by omega
        have hj2 : (j : Int) < (n : Int) := by omega
        by_cases hxy : dg l j = dg r j
        · rw [hxy] at hck
          have heq' : Hid (∀ i, j ≤ i → i < n → dg l i = dg r i) := fun i a b => by
            by_cases hij : i = j
            · rw [hij]; exact hxy
            · exact heq.out i (by omega) b
          clear hxy
          generalize dg r j = x at *
          go_wp2
          go_quiet (fail)
          go_wp2
          go_roundw
          case rel => exact ⟨j, by omega, rfl, heq', below_drewN hbl _⟩
          case measure => simp [intOf]
        · rcases Nat.lt_or_ge (dg l j) (dg r j) with hlt2 | hge2
          · have hres := Lib.hid (cmpN_lt (val_lt_at (B := 4294967296) (l := l) (m := r) (i := j) (by have := hlen.out; have := hlen'.out; omega) (by have := hlen.out; omega) hll.out hlt2 (fun i a b => heq.out i (by omega) (by have := hlen.out; omega))))
            clear hxy
            generalize dg r j = y at *
            generalize dg l j = x at *
            have hxy2 : ((x : Int) == (y : Int)) = false := by simp; omega
            have hxy3 : (x : Int) < (y : Int) := by omega
            go_wp2
            go_quiet (fail)
            go_wp2
            go_quiet (fail)
            go_wp2
            go_ret
            exact ⟨by rw [hres.out]; rfl, below_drewN (below_drewN (hbx.trans (hbl.mono (by omega))) _) _⟩
          · have hres := Lib.hid (cmpN_gt (val_lt_at (B := 4294967296) (l := r) (m := l) (i := j) (by have := hlen.out; have := hlen'.out; omega) (by have := hlen'.out; omega) hrr.out (by omega) (fun i a b => (heq.out i (by omega) (by have := hlen'.out; omega)).symm)))
            have hxy3 : dg r j < dg l j := by omega
            clear hxy hge2
            generalize dg r j = y at *
            generalize dg l j = x at *
            have hxy2 : ((x : Int) == (y : Int)) = false := by simp; omega
            have hxy4 : ¬ (x : Int) < (y : Int) := by omega
            go_wp2
            go_quiet (fail)
            go_wp2
            go_quiet (fail)
            go_wp2
            go_ret
            exact ⟨by rw [hres.out]; rfl, below_drewN (below_drewN (hbx.trans (hbl.mono (by omega))) _) _⟩
      · obtain rfl : k = 0 := by omega
        have hres : l = r := eq_of_digits (by have := hlen.out; have := hlen'.out; omega) (fun i a => heq.out i (by omega) (by have := hlen.out; omega))
        have hres := Lib.hid hres
        go_wp2
        go_ret
        exact ⟨by rw [hres.out, cmpN_eq]; rfl, hbx.trans (hbl.mono (by omega))⟩
  · have hres := Lib.hid (cmpN_gt (hnl.out.len_lt (B := 4294967296) (l := r) (by omega) hrr.out (by have := hlen.out; have := hlen'.out; omega)))
    go_enter Tryz.func94, Tryz.ntmps94
    go_wp2
    go_ret
    exact ⟨by rw [hres.out]; rfl, hbx⟩

/-- Which is the greater. -/
theorem cmp_spec {w : World} {s t : Sl} {x y : Nat} (h : NatS w s x) (h' : NatS w t y) (hn : s.n ≤ 1000000000000) (hm : t.n ≤ 1000000000000) :
    Calls Tryz.prog 94 #[.agg #[.slice s.ao s.n s.c], .agg #[.slice t.ao t.n t.c]] w fun e w' =>
      e = .returned (.int .i64 (cmpN x y)) ∧ Below w.heap.size w w' := by
  obtain ⟨l, h1, h2, h3, h4⟩ := h
  obtain ⟨r, g1, g2, g3, g4⟩ := h'
  subst h4
  subst g4
  exact cmp_walk s.ao t.ao s.n t.n s.c t.c l r w h1 g1 h2 g2 hn hm h3 g3

end Go.Proofs.YtlpfkbkpnljieaaGreat
