/- nat: Down. -/
import Derived.Test.YtnjohlimjbmkgaaProg
import Derived.Test.YtnjohlimjbmkgaaNatA
import Derived.Test.YtnjohlimjbmkgaaOwn
import Derived.Test.YtnjohlimjbmkgaaMathB
namespace Go.Proofs.Ytnjohlimjbmkgaa
open Go.RowKit

set_option maxHeartbeats 800000 in
theorem down_walk (ao : Option Addr) (n c : Nat) (l : List Nat) (w : World) (K sh : Nat) (h : IntsAt w 113 .u32 ⟨ao, n, c⟩ l) (hl : ∀ d ∈ l, d < 4294967296) (hn : n ≤ 1000000000000) (hsh : sh < 32) (hk : 32 * K + sh ≤ 65536) (hKn : K < n) :
    Calls Try.prog 98 #[.agg #[.slice ao n c], .int .i64 ((32 * K + sh : Nat) : Int)] w fun e w' =>
      ∃ (s : Sl), e = .returned (.tuple #[.agg #[.slice s.ao s.n s.c], .int .i64 0]) ∧ NatS w' s (val 4294967296 (l.drop K) / 2 ^ sh) ∧ s.n ≤ n ∧ Below w.heap.size w w' := by
  obtain ⟨b, off, rfl, hbw0, hcell⟩ := h.open (by exact Nat.lt_of_le_of_lt (Nat.zero_le _) hKn)
  have hnc : n ≤ c := h.2.1
  have hcm : c ≤ 9223372036854775807 := h.2.2.1
  have hcell := Lib.hid hcell
  simp only at hcell
  have hlen : Hid (n = l.length) := h.1
  clear h
  have hll : Hid (∀ d ∈ l, d < 4294967296) := hl
  clear hl
  have hE := ents2 w (.cells #[.slice (some ⟨b, off, none⟩) n c] 31) (.cells #[.slice none 0 0] 31)
  have hbx : Below w.heap.size w _ := ((Below.refl w.heap.size w).alloc (Nat.le_refl _) (.cells #[.slice (some ⟨b, off, none⟩) n c] 31)).alloc (by simp) (.cells #[.slice none 0 0] 31)
  have HE := Lib.hid hE; clear hE
  have h32 : (32 * (K : Int) + sh) % 32 = sh := by omega
  have h32' : (32 * (K : Int) + sh) / 32 = K := by omega
  go_enter Try.func98, Try.ntmps98
  go_wp2_with (at_make; refine wpList_mk rowU32 _ rfl _ _ rfl (w.heap.size + 2) _ _ _ (n - K) rfl rfl (by omega) (by omega) (by unfold maxLen; omega) (by simp) ?_; intro v1 w1 ho hb)
  have hbw : Below w.heap.size w w1 := hbx.trans (hb.mono (by omega))
  have hE2 := ent_below hb (by omega) HE.out.2.1
  have hw1 : w.heap.size + 2 ≤ w1.heap.size := by have := hb.size; simp at this; omega
  have hNl : Hid (n - K = (l.drop K).length) := by unfold Hid; have := hlen.out; simp; omega
  have hNn : n - K ≤ n := by omega
  have hNp : Hid (∀ i, i < n - K → w.cell? ⟨b, off + K + i, none⟩ = some (.int .u32 ((dg (l.drop K) i : Nat) : Int))) := fun i hi => by
    rw [dg_drop, Nat.add_assoc]; exact hcell.out (K + i) (by omega)
  have hdl : Hid (∀ d ∈ l.drop K, d < 4294967296) := fun d hd => hll.out d (List.mem_of_mem_drop hd)
  clear hb hcell hll hlen
  generalize n - K = N at *
  generalize hM : l.drop K = M at *
  have HM := Lib.hid hM; clear hM
  have hP : Hid (0 < 2 ^ sh) := Nat.pow_pos (by omega)
  have hBB := Lib.hid (pow_split (Nat.le_of_lt hsh))
  go_loopw [7, 35] (fun v i wr => ∃ (k : Nat) (o : List Nat), k ≤ N ∧ i = .int .i64 k ∧ Own wr (w.heap.size + 2) 113 .u32 v o ∧ Hid (o.length = k) ∧ Hid (∀ d ∈ o, d < 4294967296) ∧ Hid (val 4294967296 o + 4294967296 ^ k * (val 4294967296 (M.drop k) / 2 ^ sh) = val 4294967296 M / 2 ^ sh) ∧ Below (w.heap.size + 2) w1 wr) (fun _ i _ => N - (intOf i).toNat)
  case atStart => exact ⟨0, _, Nat.zero_le _, rfl, ho, by unfold Hid; simp, by unfold Hid; simp, by unfold Hid; simp [val], Below.refl _ _⟩
  case round =>
    obtain ⟨k, o, hk, rfl, hown, hol, hod, hval, hbl⟩ := hrel
    have hws : w.heap.size + 2 ≤ wr.heap.size := by have := hbl.size; omega
    by_cases hlt : k < N
    · have hck : wr.cell? ⟨b, off + K + k, none⟩ = some (.int .u32 ((dg M k : Nat) : Int)) := ((hbl.cell (p := ⟨b, off + K + k, none⟩) (by simp; omega)).trans (hbw.cell (p := ⟨b, off + K + k, none⟩) hbw0)).trans (hNp.out k hlt)
      have hx : dg M k < 4294967296 := dg_lt hdl.out (by omega) k
      by_cases hlt2 : k + 1 < N
      · have hck2 : wr.cell? ⟨b, off + K + (k + 1), none⟩ = some (.int .u32 ((dg M (k + 1) : Nat) : Int)) := ((hbl.cell (p := ⟨b, off + K + (k + 1), none⟩) (by simp; omega)).trans (hbw.cell (p := ⟨b, off + K + (k + 1), none⟩) hbw0)).trans (hNp.out (k + 1) hlt2)
        have hy : dg M (k + 1) < 4294967296 := dg_lt hdl.out (by omega) (k + 1)
        have hstep := Lib.hid (down_step hBB.out hP.out (by omega) hol.out (by have := hNl.out; omega) rfl rfl hdl.out hval.out)
        generalize dg M k = x at *
        generalize dg M (k + 1) = y at *
        have hor := or_join2 x y hx hy
        have hX : x + y * 4294967296 < 18446744073709551616 := by omega
        generalize x + y * 4294967296 = X at *
        go_wp2_with (at_builtin; refine wpList_push rowU32 _ rfl _ _ rfl (w.heap.size + 2) u7 o _ (X / 2 ^ sh % 4294967296) rfl rfl hown ?hz ?hl ?hm ?hb ?_)
        case hz => simp
        case hl => have := hol.out; omega
        case hm => have := hol.out; unfold maxLen; omega
        case hb => exact hws
        intro v' w' hown' hb'
        clear hck hck2
        go_wp2
        go_roundw
        case rel => exact ⟨k + 1, _, by omega, by go_num, hown', by unfold Hid; have := hol.out; simp; omega, snoc_lt hod.out (Nat.mod_lt _ (by omega)), hstep.out, hbl.trans hb'⟩
        case measure => simp [intOf]; omega
      · have hstep := Lib.hid (down_step (y := 0) hBB.out hP.out (by omega) hol.out (by have := hNl.out; omega) rfl (dg_big (by have := hNl.out; omega)) hdl.out hval.out)
        rw [Nat.zero_mul, Nat.add_zero] at hstep
        generalize dg M k = x at *
        go_wp2_with (at_builtin; refine wpList_push rowU32 _ rfl _ _ rfl (w.heap.size + 2) u7 o _ (x / 2 ^ sh % 4294967296) rfl rfl hown ?hz3 ?hl3 ?hm3 ?hb3 ?_)
        case hz3 => simp
        case hl3 => have := hol.out; omega
        case hm3 => have := hol.out; unfold maxLen; omega
        case hb3 => exact hws
        intro v' w' hown' hb'
        clear hck
        go_wp2
        go_roundw
        case rel => exact ⟨k + 1, _, by omega, by go_num, hown', by unfold Hid; have := hol.out; simp; omega, snoc_lt hod.out (Nat.mod_lt _ (by omega)), hstep.out, hbl.trans hb'⟩
        case measure => simp [intOf]; omega
    · have hkn : Hid (k = N) := by unfold Hid; omega
      obtain ⟨s, rfl, hs⟩ := hown.ints
      go_wp2_with (go_at_call 81; refine (cut_spec hs hod.out).mono ?_; rintro e w2 ⟨t, rfl, ht, htn, hb2⟩; have hE2' := ent_up hb2 (ent_below hbl (by omega) hE2); have hR := ent_cell hE2' 0; have hRf := ent_frozen hE2' 0)
      refine bodyPost_ret (v := .tuple #[.agg #[.slice t.ao t.n t.c], .int .i64 0]) (by simp [results, Try.results98, go_sem, hR]) rfl ⟨t, rfl, ?_, ?_, ?_⟩
      · have e : val 4294967296 o = val 4294967296 M / 2 ^ sh := by
          have h1 := hval.out
          rw [List.drop_eq_nil_of_le (by have := hNl.out; have := hkn.out; omega)] at h1
          simpa [val] using h1
        rw [HM.out, ← e]
        exact ht.kp ((Kp.refl _).setCell hE2' (by decide) _)
      · have := hs.1; have := hol.out; have := hkn.out; simp at *; omega
      · exact ((hbw.trans (hbl.mono (by omega))).trans (hb2.mono (by omega))).setCell (by simp) _

set_option maxHeartbeats 400000 in
theorem down_zero (ao : Option Addr) (n c : Nat) (w : World) (K sh : Nat) (_hn : n ≤ 1000000000000) (hsh : sh < 32) (hk : 32 * K + sh ≤ 65536) (hKn : n ≤ K) :
    Calls Try.prog 98 #[.agg #[.slice ao n c], .int .i64 ((32 * K + sh : Nat) : Int)] w fun e w' =>
      e = .returned (.tuple #[.agg #[.slice none 0 0], .int .i64 0]) ∧ Below w.heap.size w w' := by
  have h32' : (32 * (K : Int) + sh) / 32 = K := by omega
  go_enter Try.func98, Try.ntmps98
  go_wp2
  refine bodyPost_ret (v := .tuple #[.agg #[.slice none 0 0], .int .i64 0]) (by simp [results, Try.results98, go_sem]) rfl ⟨rfl, ?_⟩
  exact ((Below.refl _ _).alloc (Nat.le_refl _) _).alloc (by simp) _

set_option maxHeartbeats 400000 in
theorem down_err (ao : Option Addr) (n c : Nat) (w : World) (k : Int) (hk : k < 0 ∨ 65536 < k) :
    Calls Try.prog 98 #[.agg #[.slice ao n c], .int .i64 k] w fun e w' =>
      e = .returned (.tuple #[.agg #[.slice none 0 0], .int .i64 1]) ∧ Below w.heap.size w w' := by
  by_cases h0 : k < 0
  · go_enter Try.func98, Try.ntmps98
    go_wp2
    refine bodyPost_ret (v := .tuple #[.agg #[.slice none 0 0], .int .i64 1]) (by simp [results, Try.results98, go_sem]) rfl ⟨rfl, ?_⟩
    exact ((Below.refl _ _).alloc (Nat.le_refl _) _).alloc (by simp) _
  · have hk' : 65536 < k := by omega
    go_enter Try.func98, Try.ntmps98
    go_wp2
    refine bodyPost_ret (v := .tuple #[.agg #[.slice none 0 0], .int .i64 1]) (by simp [results, Try.results98, go_sem]) rfl ⟨rfl, ?_⟩
    exact ((Below.refl _ _).alloc (Nat.le_refl _) _).alloc (by simp) _

/-- Divided by 2^k. -/
theorem down_spec {w : World} {s : Sl} {x : Nat} (k : Nat) (h : NatS w s x) (hn : s.n ≤ 1000000000000) (hk : k ≤ 65536) :
    Calls Try.prog 98 #[.agg #[.slice s.ao s.n s.c], .int .i64 (k : Int)] w fun e w' =>
      ∃ u : Sl, e = .returned (.tuple #[.agg #[.slice u.ao u.n u.c], .int .i64 0]) ∧ NatS w' u (x / 2 ^ k) ∧ u.n ≤ s.n ∧ Below w.heap.size w w' := by
  obtain ⟨K, sh, hsh, rfl⟩ : ∃ K sh, sh < 32 ∧ k = 32 * K + sh := ⟨k / 32, k % 32, Nat.mod_lt _ (by omega), by omega⟩
  obtain ⟨l, h1, h2, h3, h4⟩ := h
  have e : x / 2 ^ (32 * K + sh) = val 4294967296 (l.drop K) / 2 ^ sh := by
    rw [val_drop _ (by omega) l K h2, h4, Nat.pow_add, Nat.pow_mul, show (2 : Nat) ^ 32 = 4294967296 from rfl, Nat.div_div_eq_div_mul]
  rw [e]
  rcases Nat.lt_or_ge K s.n with hc | hc
  · exact down_walk s.ao s.n s.c l w K sh h1 h2 hn hsh hk hc
  · refine (down_zero s.ao s.n s.c w K sh hn hsh hk hc).mono ?_
    rintro e w' ⟨rfl, hb⟩
    refine ⟨⟨none, 0, 0⟩, rfl, ?_, Nat.zero_le _, hb⟩
    rw [List.drop_eq_nil_of_le (by rw [← h1.1]; exact hc)]
    simp only [val, Nat.zero_div]
    exact NatS.nil _ _ _ (by omega)

end Go.Proofs.Ytnjohlimjbmkgaa
