/- nat: Of, Bits, Word, Sub. -/
import Derived.Test.YtnjohlimjbmkgaaProg
import Derived.Test.YtnjohlimjbmkgaaNatA
import Derived.Test.YtnjohlimjbmkgaaNatE
import Derived.Test.YtnjohlimjbmkgaaNatF
import Derived.Test.YtnjohlimjbmkgaaLen
import Derived.Test.YtnjohlimjbmkgaaOwn
namespace Go.Proofs.Ytnjohlimjbmkgaa
open Go.RowKit

set_option maxHeartbeats 400000 in
theorem of_spec (x : Nat) (w : World) (hx : x < 18446744073709551616) :
    Calls Try.prog 45 #[.int .u64 (x : Int)] w fun e w' =>
      ∃ u : Sl, e = .returned (.agg #[.slice u.ao u.n u.c]) ∧ NatS w' u x ∧ u.n ≤ 2 ∧ Below w.heap.size w w' := by
  have hE := ents2 w (.cells #[.slice none 0 0] 31) (.cells #[.int .u32 ((x : Int) % 4294967296), .int .u32 ((x : Int) / 4294967296)] 113)
  have hi : IntsAt _ 113 .u32 ⟨some ⟨w.heap.size + 1, 0, none⟩, 2, 2⟩ [x % 4294967296, x / 4294967296] := IntsAt.of_row [x % 4294967296, x / 4294967296] hE.2.1 (by simp) (by simp)
  have hv : val 4294967296 [x % 4294967296, x / 4294967296] = x := by rw [val_two]; omega
  have hbx : Below w.heap.size w _ := ((Below.refl w.heap.size w).alloc (Nat.le_refl _) (.cells #[.slice none 0 0] 31)).alloc (by simp) (.cells #[.int .u32 ((x : Int) % 4294967296), .int .u32 ((x : Int) / 4294967296)] 113)
  go_enter Try.func45, Try.ntmps45
  have HE := Lib.hid hE
  have HV := Lib.hid hv
  clear hE hv
  go_wp2_with (go_at_call 81; refine (cut_spec hi (by intro d hd; simp at hd; omega)).mono ?_; rintro e w2 ⟨t, rfl, ht, htn, hb2⟩; have hE' := ent_up hb2 HE.out.1; have hR := ent_cell hE' 0; have hRf := ent_frozen hE' 0)
  rw [HV.out] at ht
  refine bodyPost_ret (v := .agg #[.slice t.ao t.n t.c]) (by simp [results, Try.results45, go_sem, hR]) rfl ⟨t, rfl, ht.kp ((Kp.refl _).setCell hE' (by decide) _), htn, ?_⟩
  exact (hbx.trans (hb2.mono (by have := hbx.size; exact this))).setCell (Nat.le_refl _) _

theorem bl_val {l : List Nat} {j : Nat} (hl : ∀ d ∈ l, d < 4294967296) (h : l.length = j + 1) (hn : dg l j ≠ 0) : bl (val 4294967296 l) = 32 * j + bl (dg l j) := by
  have h1 := val_top (B := 4294967296) h
  have h2 : val 4294967296 (l.take j) < 4294967296 ^ j := by
    have := val_lt 4294967296 (l.take j) (fun d hd => hl d (List.mem_of_mem_take hd))
    simpa [h] using this
  generalize val 4294967296 (l.take j) = v at *
  generalize dg l j = t at *
  have hp : 4294967296 ^ j = 2 ^ (32 * j) := by rw [Nat.pow_mul]
  rw [hp] at h1 h2
  rw [h1]
  have ht := (bl_le t (bl t)).1 (Nat.le_refl _)
  have hlo : 2 ^ (bl t - 1) ≤ t := by
    apply Nat.le_of_not_lt
    intro hh
    have := (bl_le t (bl t - 1)).2 hh
    have : bl t ≠ 0 := by unfold bl; rw [if_neg hn]; omega
    omega
  have hb0 : bl t ≠ 0 := by unfold bl; rw [if_neg hn]; omega
  apply Nat.le_antisymm
  · rw [bl_le, Nat.pow_add]
    have h3 : 2 ^ (32 * j) * (t + 1) ≤ 2 ^ (32 * j) * 2 ^ bl t := Nat.mul_le_mul_left _ ht
    rw [Nat.mul_add] at h3
    omega
  · apply Nat.le_of_not_lt
    intro hh
    have h4 : bl (v + 2 ^ (32 * j) * t) ≤ 32 * j + (bl t - 1) := by omega
    rw [bl_le, Nat.pow_add] at h4
    have h5 : 2 ^ (32 * j) * 2 ^ (bl t - 1) ≤ 2 ^ (32 * j) * t := Nat.mul_le_mul_left _ hlo
    omega

set_option maxHeartbeats 400000 in
theorem bits_spec {w : World} {s : Sl} {x : Nat} (h : NatS w s x) (hn : s.n ≤ 1000000000000) :
    Calls Try.prog 69 #[.agg #[.slice s.ao s.n s.c]] w fun e w' => e = .returned (.int .i64 (bl x : Int)) ∧ Below w.heap.size w w' := by
  obtain ⟨l, h1, h2, h3, h4⟩ := h
  obtain ⟨ao, n, c⟩ := s
  have hop := h1.open
  have hlen := Lib.hid h1.1
  clear h1
  simp only at hop hlen hn ⊢
  by_cases h0 : n = 0
  · subst h0
    have hx : Hid (x = 0) := by
      unfold Hid
      rw [← h4, List.eq_nil_of_length_eq_zero hlen.out.symm]; rfl
    go_enter Try.func69, Try.ntmps69
    go_wp2
    go_ret
    exact ⟨by rw [hx.out]; rfl, (Below.refl _ _).alloc (Nat.le_refl _) _⟩
  · obtain ⟨j, rfl⟩ : ∃ j, n = j + 1 := ⟨n - 1, by omega⟩
    obtain ⟨b, off, rfl, hb, hcell⟩ := hop (by omega)
    have hc := hcell j (by omega)
    have hl1 : l.length = j + 1 := hlen.out.symm
    have hd : dg l j < 4294967296 := dg_lt h2 (by omega) j
    have hd0 : dg l j ≠ 0 := by
      intro hh
      apply h3
      rw [List.getLast?_eq_getElem?, hl1]
      simp only [Nat.add_sub_cancel]
      rw [dg_of (by omega)] at hh
      simp [hl1, hh]
    have hbl := Lib.hid (bl_val h2 hl1 hd0)
    have hx := Lib.hid h4
    have hb32 : bl (dg l j) ≤ 32 := (bl_le _ 32).2 (by omega)
    clear h2 h3 h4 hl1 hcell hop hd0 h0
    generalize dg l j = d at *
    go_enter Try.func69, Try.ntmps69
    go_wp2_with (go_at_call 99; refine (len32_spec d _ hd).mono ?_; rintro e w' ⟨rfl, rfl⟩)
    go_ret
    exact ⟨by rw [← hx.out, hbl.out]; simp, (Below.refl _ _).alloc (Nat.le_refl _) _⟩

set_option maxHeartbeats 400000 in
theorem word_big {w : World} {s : Sl} {x : Nat} (h : NatS w s x) (hn : s.n ≤ 1000000000000) (hx : 18446744073709551616 ≤ x) :
    Calls Try.prog 76 #[.agg #[.slice s.ao s.n s.c]] w fun e w' => e = .returned (.tuple #[.int .u64 0, .bool false]) ∧ Below w.heap.size w w' := by
  have h3 : 2 < s.n := by
    obtain ⟨l, h1, h2, h3, h4⟩ := h
    apply Nat.lt_of_not_le
    intro hh
    have := val_lt 4294967296 l h2
    have h5 : 4294967296 ^ l.length ≤ 4294967296 ^ 2 := Nat.pow_le_pow_right (by omega) (by rw [← h1.1]; exact hh)
    omega
  obtain ⟨ao, n, c⟩ := s
  simp only at h3 hn ⊢
  clear h hx
  go_enter Try.func76, Try.ntmps76
  go_wp2
  go_ret2
  exact ⟨rfl, (Below.refl _ _).alloc (Nat.le_refl _) _⟩

set_option maxHeartbeats 800000 in
theorem word_small {w : World} {s : Sl} {x : Nat} (h : NatS w s x) (hx : x < 18446744073709551616) :
    Calls Try.prog 76 #[.agg #[.slice s.ao s.n s.c]] w fun e w' => e = .returned (.tuple #[.int .u64 (x : Int), .bool true]) ∧ Below w.heap.size w w' := by
  obtain ⟨l, h1, h2, h3, h4⟩ := h
  have hn2 : s.n ≤ 2 := by
    rw [h1.1]
    exact h3.len_of_lt (B := 4294967296) (by omega) (by rw [h4]; omega)
  obtain ⟨ao, n, c⟩ := s
  have hop := Lib.hid h1.open
  have hlen := Lib.hid h1.1
  have hv := Lib.hid h4
  have hll := Lib.hid h2
  clear h1 h3 h4 h2
  simp only at hop hlen hn2 ⊢
  have hbx : Below w.heap.size w (w.alloc (.cells #[.slice ao n c] 31)) := (Below.refl _ _).alloc (Nat.le_refl _) _
  go_enter Try.func76, Try.ntmps76
  go_wp2
  go_loop [4, 14] (fun v i => ∃ k : Nat, k ≤ n ∧ i = .int .i64 k ∧ v = .int .u64 ((val 4294967296 (l.take k) : Nat) : Int)) (fun _ i => n - (intOf i).toNat)
  case atStart => exact ⟨0, Nat.zero_le _, rfl, by simp [val]⟩
  case round =>
    obtain ⟨k, hk, rfl, rfl⟩ := hrel
    by_cases hlt : k < n
    · obtain ⟨b, off, rfl, hbw, hcell⟩ := hop.out (by omega)
      have hck := hcell k hlt
      clear hcell
      have hd : dg l k < 4294967296 := dg_lt hll.out (by omega) k
      have hstep := val_take_next 4294967296 l k
      by_cases h0 : k = 0
      · subst h0
        simp only [List.take_zero, val_nil, Nat.zero_add, Nat.pow_zero, Nat.one_mul] at hstep ⊢
        rw [Nat.add_zero] at hck
        have hs := Lib.hid hstep; clear hstep
        have hor := or_zero64 (dg l 0) (by omega)
        generalize dg l 0 = d at *
        go_wp2
        go_round
        case rel => exact ⟨1, by omega, by go_num, by rw [hs.out]⟩
        case measure => simp [intOf]; omega
      · obtain rfl : k = 1 := by omega
        have hq : val 4294967296 (l.take 1) < 4294967296 := by
          have h5 := val_lt 4294967296 (l.take 1) (fun d hd => hll.out d (List.mem_of_mem_take hd))
          have : (l.take 1).length = 1 := by have := hlen.out; simp; omega
          rw [this] at h5
          simpa using h5
        have hs := Lib.hid hstep; clear hstep
        generalize val 4294967296 (l.take 1) = q at *
        have hor := or_join2 q (dg l 1) hq hd
        generalize dg l 1 = d at *
        go_wp2
        go_round
        case rel => exact ⟨2, by omega, by go_num, by rw [hs.out, Nat.pow_one, Nat.mul_comm]; simp⟩
        case measure => simp [intOf]; omega
    · have hkn : Hid (val 4294967296 (l.take k) = x) := by
        unfold Hid
        rw [val_take_all _ _ _ (by have := hlen.out; omega)]
        exact hv.out
      go_wp2
      go_ret2
      exact ⟨by rw [hkn.out]; rfl, hbx⟩

set_option maxHeartbeats 800000 in
/-- The difference, where there is one. -/
theorem sub_ge {w : World} {s t : Sl} {x y : Nat} (h : NatS w s x) (h' : NatS w t y) (hn : s.n ≤ 1000000000000) (hm : t.n ≤ 1000000000000) (hxy : y ≤ x) :
    Calls Try.prog 73 #[.agg #[.slice s.ao s.n s.c], .agg #[.slice t.ao t.n t.c]] w fun e w' =>
      ∃ u : Sl, e = .returned (.tuple #[.agg #[.slice u.ao u.n u.c], .int .i64 0]) ∧ NatS w' u (x - y) ∧ u.n ≤ s.n ∧ Below w.heap.size w w' := by
  have hE := ents3 w (.cells #[.slice s.ao s.n s.c] 31) (.cells #[.slice t.ao t.n t.c] 31) (.cells #[.slice none 0 0] 31)
  have hbx : Below w.heap.size w _ := (((Below.refl w.heap.size w).alloc (Nat.le_refl _) (.cells #[.slice s.ao s.n s.c] 31)).alloc (by simp) (.cells #[.slice t.ao t.n t.c] 31)).alloc (by simp; omega) (.cells #[.slice none 0 0] 31)
  have hc : cmpN x y = 0 ∨ cmpN x y = 1 := by
    rcases Nat.lt_or_ge y x with h | h
    · exact .inr (cmpN_gt h)
    · obtain rfl : x = y := by omega
      exact .inl (cmpN_eq x)
  have hge : ¬ cmpN x y < 0 := by omega
  clear hc
  have HE := Lib.hid hE; clear hE
  go_enter Try.func73, Try.ntmps73
  go_wp2_with (first | (go_at_call 46; refine (cmp_spec (h.up hbx) (h'.up hbx) hn hm).mono ?_; rintro e w1 ⟨rfl, hb1⟩; have hA := ent_cell (ent_up hb1 HE.out.1) 0; have hB := ent_cell (ent_up hb1 HE.out.2.1) 0) | (go_at_call 101; refine (less_spec ((h.up hbx).up hb1) ((h'.up hbx).up hb1) hn hxy).mono ?_; rintro e w2 ⟨u, rfl, hu, hun, hb2⟩; have hE' := ent_up hb2 (ent_up hb1 HE.out.2.2.1); have hR := ent_cell hE' 0; have hRf := ent_frozen hE' 0))
  refine bodyPost_ret (v := .tuple #[.agg #[.slice u.ao u.n u.c], .int .i64 0]) (by simp [results, Try.results73, go_sem, hR]) rfl ⟨u, rfl, hu.kp ((Kp.refl _).setCell hE' (by decide) _), hun, ?_⟩
  exact ((hbx.trans (hb1.mono (by have := hbx.size; exact this))).trans (hb2.mono (by have := hbx.size; have := hb1.size; omega))).setCell (by simp; omega) _

set_option maxHeartbeats 800000 in
theorem sub_lt {w : World} {s t : Sl} {x y : Nat} (h : NatS w s x) (h' : NatS w t y) (hn : s.n ≤ 1000000000000) (hm : t.n ≤ 1000000000000) (hxy : x < y) :
    Calls Try.prog 73 #[.agg #[.slice s.ao s.n s.c], .agg #[.slice t.ao t.n t.c]] w fun e w' =>
      e = .returned (.tuple #[.agg #[.slice none 0 0], .int .i64 4]) ∧ Below w.heap.size w w' := by
  have hE := ents3 w (.cells #[.slice s.ao s.n s.c] 31) (.cells #[.slice t.ao t.n t.c] 31) (.cells #[.slice none 0 0] 31)
  have hbx : Below w.heap.size w _ := (((Below.refl w.heap.size w).alloc (Nat.le_refl _) (.cells #[.slice s.ao s.n s.c] 31)).alloc (by simp) (.cells #[.slice t.ao t.n t.c] 31)).alloc (by simp; omega) (.cells #[.slice none 0 0] 31)
  have hlt : cmpN x y < 0 := by rw [cmpN_lt hxy]; omega
  have HE := Lib.hid hE; clear hE
  go_enter Try.func73, Try.ntmps73
  go_wp2_with (go_at_call 46; refine (cmp_spec (h.up hbx) (h'.up hbx) hn hm).mono ?_; rintro e w1 ⟨rfl, hb1⟩; have hE' := ent_up hb1 HE.out.2.2.1; have hR := ent_cell hE' 0; have hRf := ent_frozen hE' 0)
  refine bodyPost_ret (v := .tuple #[.agg #[.slice none 0 0], .int .i64 4]) (by simp [results, Try.results73, go_sem, hR]) rfl ⟨rfl, ?_⟩
  exact (hbx.trans (hb1.mono (by have := hbx.size; exact this))).setCell (by simp; omega) _

end Go.Proofs.Ytnjohlimjbmkgaa
