/- nat: Up. -/
import Derived.Test.YtnjohlimjbmkgaaProg
import Derived.Test.YtnjohlimjbmkgaaNatA
import Derived.Test.YtnjohlimjbmkgaaOwn
namespace Go.Proofs.Ytnjohlimjbmkgaa
open Go.RowKit

set_option maxHeartbeats 800000 in
theorem up_walk (ao : Option Addr) (n c : Nat) (l : List Nat) (w : World) (K sh : Nat) (h : IntsAt w 113 .u32 ⟨ao, n, c⟩ l) (hl : ∀ d ∈ l, d < 4294967296) (hn : n ≤ 1000000000000) (hsh : sh < 32) (hk : 32 * K + sh ≤ 65536) :
    Calls Try.prog 96 #[.agg #[.slice ao n c], .int .i64 ((32 * K + sh : Nat) : Int)] w fun e w' =>
      ∃ (s : Sl), e = .returned (.tuple #[.agg #[.slice s.ao s.n s.c], .int .i64 0]) ∧ NatS w' s (val 4294967296 l * 2 ^ (32 * K + sh)) ∧ s.n ≤ n + K + 1 ∧ Below w.heap.size w w' := by
  have hop : Hid (0 < n → ∃ b off, ao = some ⟨b, off, none⟩ ∧ b < w.heap.size ∧ ∀ i, i < n → w.cell? ⟨b, off + i, none⟩ = some (.int .u32 ((dg l i : Nat) : Int))) := h.open
  have hlen : Hid (n = l.length) := h.1
  clear h
  have hll : Hid (∀ d ∈ l, d < 4294967296) := hl
  clear hl
  have hE := ents2 w (.cells #[.slice ao n c] 31) (.cells #[.slice none 0 0] 31)
  have hbx : Below w.heap.size w _ := ((Below.refl w.heap.size w).alloc (Nat.le_refl _) (.cells #[.slice ao n c] 31)).alloc (by simp) (.cells #[.slice none 0 0] 31)
  have HE := Lib.hid hE; clear hE
  go_enter Try.func96, Try.ntmps96
  go_wp2_with (at_make; refine wpList_mkcap rowU32 _ rfl _ _ rfl (w.heap.size + 2) _ _ _ _ K (K + n + 1) rfl rfl (by omega) (by omega) (by omega) (by omega) (by unfold maxLen; omega) (by simp) ?_; intro v1 w1 ho hb hsz; have hA1 := ent_cell (ent_below hb (by omega) HE.out.1) 0)
  have hbw : Below w.heap.size w w1 := hbx.trans (hb.mono (by omega))
  have hE2 := ent_below hb (by omega) HE.out.2.1
  have hw1 : w.heap.size + 2 ≤ w1.heap.size := by have := hb.size; simp at this; omega
  clear hb hA1
  go_loopw [6, 7, 30] (fun v cy i wr => ∃ (k : Nat) (o : List Nat) (q : Nat), k ≤ n ∧ i = .int .i64 k ∧ cy = .int .u64 q ∧ Hid (q < 2 ^ sh) ∧ Own wr (w.heap.size + 2) 113 .u32 v o ∧ Hid (o.length = K + k) ∧ Hid (∀ d ∈ o, d < 4294967296) ∧ Hid (val 4294967296 o + 4294967296 ^ (K + k) * q = 4294967296 ^ K * (val 4294967296 (l.take k) * 2 ^ sh)) ∧ Below (w.heap.size + 2) w1 wr) (fun _ _ i _ => n - (intOf i).toNat)
  case atStart => exact ⟨0, _, 0, Nat.zero_le _, rfl, rfl, Nat.pow_pos (by omega), ho, by unfold Hid; simp, by unfold Hid; simp, by unfold Hid; simp [val, val_replicate], Below.refl _ _⟩
  case round =>
    obtain ⟨k, o, q, hk, rfl, rfl, hq, hown, hol, hod, hval, hbl⟩ := hrel
    have hws : w.heap.size + 2 ≤ wr.heap.size := by have := hbl.size; omega
    have h32 : (32 * (K : Int) + sh) % 32 = sh := by omega
    by_cases hlt : k < n
    · obtain ⟨b, off, rfl, hbw0, hcell⟩ := hop.out (by omega)
      have hck : wr.cell? ⟨b, off + k, none⟩ = some (.int .u32 ((dg l k : Nat) : Int)) := ((hbl.cell (p := ⟨b, off + k, none⟩) (by simp; omega)).trans (hbw.cell (p := ⟨b, off + k, none⟩) hbw0)).trans (hcell k hlt)
      clear hcell
      have hx : dg l k < 4294967296 := dg_lt hll.out (by omega) k
      have hxe := rfl (a := dg l k)
      generalize hxx : dg l k = x at hck hx hxe ⊢
      have HX := Lib.hid hxx; clear hxx hxe
      have hor := or_shift q x sh hq.out hx hsh
      obtain ⟨hN1, hN2, _⟩ := shl_lt hq.out hx hsh
      generalize hNe : q + x * 2 ^ sh = N at *
      have hstep := Lib.hid (up_step hol.out HX.out hNe hval.out)
      have HN2 := Lib.hid hN2; clear hN2 hNe
      go_wp2_with (at_builtin; refine wpList_push rowU32 _ rfl _ _ rfl (w.heap.size + 2) u6 o _ (N % 4294967296) rfl rfl hown ?hz ?hl ?hm ?hb ?_)
      case hz => rfl
      case hl => have := hol.out; omega
      case hm => have := hol.out; unfold maxLen; omega
      case hb => exact hws
      intro v' w' hown' hb'
      clear hck
      go_wp2
      go_roundw
      case rel => exact ⟨k + 1, _, N / 4294967296, by omega, by go_num, rfl, HN2, hown', by unfold Hid; have := hol.out; simp; omega, snoc_lt hod.out (Nat.mod_lt _ (by omega)), hstep.out, hbl.trans hb'⟩
      case measure => simp [intOf]; omega
    · have hkn : Hid (k = n) := by unfold Hid; omega
      have hq32 : q < 4294967296 := by
        have : 2 ^ sh ≤ 2 ^ 31 := Nat.pow_le_pow_right (by omega) (by omega)
        have := hq.out
        omega
      go_wp2_with (at_builtin; refine wpList_push rowU32 _ rfl _ _ rfl (w.heap.size + 2) u6 o _ q rfl rfl hown ?hz2 ?hl2 ?hm2 ?hb2 ?_)
      case hz2 => rfl
      case hl2 => have := hol.out; omega
      case hm2 => have := hol.out; unfold maxLen; omega
      case hb2 => exact hws
      intro v' w' hown' hb'
      obtain ⟨s, rfl, hs⟩ := hown'.ints
      have hsd := Lib.hid (snoc_lt hod.out hq32)
      go_wp2_with (go_at_call 81; refine (cut_spec hs hsd.out).mono ?_; rintro e w2 ⟨t, rfl, ht, htn, hb2⟩; have hE2' := ent_up hb2 (ent_below hb' (by omega) (ent_below hbl (by omega) hE2)); have hR := ent_cell hE2' 0; have hRf := ent_frozen hE2' 0)
      refine bodyPost_ret (v := .tuple #[.agg #[.slice t.ao t.n t.c], .int .i64 0]) (by simp [results, Try.results96, go_sem, hR]) rfl ⟨t, rfl, ?_, ?_, ?_⟩
      · have e : val 4294967296 (o ++ [q]) = val 4294967296 l * 2 ^ (32 * K + sh) := by
          have h1 := hval.out
          rw [val_take_all _ l _ (by have := hlen.out; have := hkn.out; omega)] at h1
          rw [val_snoc, hol.out, h1, Nat.pow_add, Nat.pow_mul, show (2 : Nat) ^ 32 = 4294967296 from rfl]
          grind
        rw [← e]
        exact ht.kp ((Kp.refl _).setCell hE2' (by decide) _)
      · have := hs.1; have := hol.out; have := hkn.out; simp at *; omega
      · exact (((hbw.trans (hbl.mono (by omega))).trans (hb'.mono (by omega))).trans (hb2.mono (by have := hb'.size; omega))).setCell (by simp) _

set_option maxHeartbeats 400000 in
theorem up_err (ao : Option Addr) (n c : Nat) (w : World) (k : Int) (hk : k < 0 ∨ 65536 < k) :
    Calls Try.prog 96 #[.agg #[.slice ao n c], .int .i64 k] w fun e w' =>
      e = .returned (.tuple #[.agg #[.slice none 0 0], .int .i64 1]) ∧ Below w.heap.size w w' := by
  by_cases h0 : k < 0
  · go_enter Try.func96, Try.ntmps96
    go_wp2
    refine bodyPost_ret (v := .tuple #[.agg #[.slice none 0 0], .int .i64 1]) (by simp [results, Try.results96, go_sem]) rfl ⟨rfl, ?_⟩
    exact ((Below.refl _ _).alloc (Nat.le_refl _) _).alloc (by simp) _
  · have hk' : 65536 < k := by omega
    go_enter Try.func96, Try.ntmps96
    go_wp2
    refine bodyPost_ret (v := .tuple #[.agg #[.slice none 0 0], .int .i64 1]) (by simp [results, Try.results96, go_sem]) rfl ⟨rfl, ?_⟩
    exact ((Below.refl _ _).alloc (Nat.le_refl _) _).alloc (by simp) _

/-- Times 2^k. -/
theorem up_spec {w : World} {s : Sl} {x : Nat} (k : Nat) (h : NatS w s x) (hn : s.n ≤ 1000000000000) (hk : k ≤ 65536) :
    Calls Try.prog 96 #[.agg #[.slice s.ao s.n s.c], .int .i64 (k : Int)] w fun e w' =>
      ∃ u : Sl, e = .returned (.tuple #[.agg #[.slice u.ao u.n u.c], .int .i64 0]) ∧ NatS w' u (x * 2 ^ k) ∧ u.n ≤ s.n + k / 32 + 1 ∧ Below w.heap.size w w' := by
  obtain ⟨K, sh, hsh, rfl⟩ : ∃ K sh, sh < 32 ∧ k = 32 * K + sh := ⟨k / 32, k % 32, Nat.mod_lt _ (by omega), by omega⟩
  obtain ⟨l, h1, h2, h3, h4⟩ := h
  subst h4
  refine (up_walk s.ao s.n s.c l w K sh h1 h2 hn hsh hk).mono ?_
  rintro e w' ⟨u, rfl, hu, hun, hb⟩
  exact ⟨u, rfl, hu, by omega, hb⟩

end Go.Proofs.Ytnjohlimjbmkgaa
