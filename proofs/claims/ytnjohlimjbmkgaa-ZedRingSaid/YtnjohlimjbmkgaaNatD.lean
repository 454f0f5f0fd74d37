/- nat: Add. -/
import Derived.Test.YtnjohlimjbmkgaaProg
import Derived.Test.YtnjohlimjbmkgaaNatA
import Derived.Test.YtnjohlimjbmkgaaOwn
namespace Go.Proofs.Ytnjohlimjbmkgaa
open Go.RowKit

set_option maxHeartbeats 800000 in
theorem add_walk1 (ao bo : Option Addr) (n m c d : Nat) (l r : List Nat) (w : World) (h : IntsAt w 113 .u32 ⟨ao, n, c⟩ l) (h' : IntsAt w 113 .u32 ⟨bo, m, d⟩ r) (hl : ∀ d ∈ l, d < 4294967296) (hr : ∀ d ∈ r, d < 4294967296) (hn : n ≤ 1000000000000) (hm : m ≤ 1000000000000) (hmn : m ≤ n) :
    Calls Try.prog 72 #[.agg #[.slice ao n c], .agg #[.slice bo m d]] w fun e w' =>
      ∃ (s : Sl), e = .returned (.agg #[.slice s.ao s.n s.c]) ∧ NatS w' s (val 4294967296 l + val 4294967296 r) ∧ s.n ≤ n + 1 ∧ Below w.heap.size w w' := by
  have hop : Hid (0 < n → ∃ b off, ao = some ⟨b, off, none⟩ ∧ b < w.heap.size ∧ ∀ i, i < n → w.cell? ⟨b, off + i, none⟩ = some (.int .u32 ((dg l i : Nat) : Int))) := h.open
  have hop' : Hid (0 < m → ∃ b off, bo = some ⟨b, off, none⟩ ∧ b < w.heap.size ∧ ∀ i, i < m → w.cell? ⟨b, off + i, none⟩ = some (.int .u32 ((dg r i : Nat) : Int))) := h'.open
  have hlen : Hid (n = l.length) := h.1
  have hlen' : Hid (m = r.length) := h'.1
  clear h h'
  have hll : Hid (∀ d ∈ l, d < 4294967296) := hl
  have hrr : Hid (∀ d ∈ r, d < 4294967296) := hr
  clear hl hr
  go_enter Try.func72, Try.ntmps72
  go_wp2_with (at_make; refine wpList_mk rowU32 _ rfl _ _ rfl (w.heap.size + 3) _ _ _ (n + 1) rfl rfl (by omega) (by omega) (by unfold maxLen; omega) (by simp) ?_; intro v1 w1 ho hb; have hA1 := ent_cell (ent_below hb (by omega) (ents3 w _ _ _).1) 0)
  have hbw : Below w.heap.size w w1 := ((((Below.refl _ _).alloc (Nat.le_refl _) _).alloc (by simp) _).alloc (by simp; omega) _).trans (hb.mono (by omega))
  have hE2 := ent_below hb (by omega) (ents3 w _ _ _).2.1
  have hE3 := ent_below hb (by omega) (ents3 w _ _ _).2.2.1
  go_loopw [5, 6, 26] (fun v cy i wr => ∃ (k : Nat) (o : List Nat) (q : Nat), k ≤ n ∧ i = .int .i64 k ∧ cy = .int .u64 q ∧ q ≤ 1 ∧ Own wr (w.heap.size + 3) 113 .u32 v o ∧ Hid (o.length = k) ∧ Hid (∀ d ∈ o, d < 4294967296) ∧ Hid (val 4294967296 o + 4294967296 ^ k * q = val 4294967296 (l.take k) + val 4294967296 (r.take k)) ∧ Below (w.heap.size + 3) w1 wr) (fun _ _ i _ => n - (intOf i).toNat)
  case atStart => exact ⟨0, [], 0, Nat.zero_le _, rfl, rfl, by omega, ho, rfl, by unfold Hid; simp, by unfold Hid; simp [val], Below.refl _ _⟩
  case round =>
    obtain ⟨k, o, q, hk, rfl, rfl, hq, hown, hol, hod, hval, hbl⟩ := hrel
    have hB := ent_cell (ent_below hbl (by omega) hE2) 0
    have hws : w.heap.size + 3 ≤ wr.heap.size := by have := hbl.size; have := hb.size; simp at this; omega
    by_cases hlt : k < n
    · obtain ⟨b, off, rfl, hbw0, hcell⟩ := hop.out (by omega)
      have hck : wr.cell? ⟨b, off + k, none⟩ = some (.int .u32 ((dg l k : Nat) : Int)) := ((hbl.cell (p := ⟨b, off + k, none⟩) (by simp; omega)).trans (hbw.cell (p := ⟨b, off + k, none⟩) hbw0)).trans (hcell k hlt)
      clear hcell
      have hx : dg l k < 4294967296 := dg_lt hll.out (by omega) k
      by_cases hltm : k < m
      · obtain ⟨b', off', rfl, hbw0', hcell'⟩ := hop'.out (by omega)
        have hck' : wr.cell? ⟨b', off' + k, none⟩ = some (.int .u32 ((dg r k : Nat) : Int)) := ((hbl.cell (p := ⟨b', off' + k, none⟩) (by simp; omega)).trans (hbw.cell (p := ⟨b', off' + k, none⟩) hbw0')).trans (hcell' k hltm)
        clear hcell'
        have hy : dg r k < 4294967296 := dg_lt hrr.out (by omega) k
        have hstep := Lib.hid (add_step (z := q + dg l k + dg r k) hol.out rfl rfl rfl hval.out)
        generalize dg l k = x at *
        generalize dg r k = y at *
        go_wp2_with (at_builtin; refine wpList_push rowU32 _ rfl _ _ rfl (w.heap.size + 3) u5 o _ ((q + x + y) % 4294967296) rfl rfl hown ?hz ?hl ?hm ?hb ?_)
        case hz => rfl
        case hl => have := hol.out; omega
        case hm => have := hol.out; unfold maxLen; omega
        case hb => exact hws
        intro v' w' hown' hb'
        clear hck hck' hB
        go_wp2
        go_roundw
        case rel => exact ⟨k + 1, _, (q + x + y) / 4294967296, by omega, by go_num, rfl, by omega, hown', by unfold Hid; have := hol.out; simp; omega, snoc_lt hod.out (Nat.mod_lt _ (by omega)), hstep.out, hbl.trans hb'⟩
        case measure => simp [intOf]; omega
      · have hstep := Lib.hid (add_step (z := q + dg l k) (y := 0) (r := r) hol.out rfl (dg_big (by have := hlen'.out; omega)) rfl hval.out)
        generalize dg l k = x at *
        go_wp2_with (at_builtin; refine wpList_push rowU32 _ rfl _ _ rfl (w.heap.size + 3) u5 o _ ((q + x) % 4294967296) rfl rfl hown ?hz' ?hl' ?hm' ?hb' ?_)
        case hz' => rfl
        case hl' => have := hol.out; omega
        case hm' => have := hol.out; unfold maxLen; omega
        case hb' => exact hws
        intro v' w' hown' hb'
        clear hck hB
        go_wp2
        go_roundw
        case rel => exact ⟨k + 1, _, (q + x) / 4294967296, by omega, by go_num, rfl, by omega, hown', by unfold Hid; have := hol.out; simp; omega, snoc_lt hod.out (Nat.mod_lt _ (by omega)), hstep.out, hbl.trans hb'⟩
        case measure => simp [intOf]; omega
    · have hkn : Hid (k = n) := by unfold Hid; omega
      go_wp2_with (at_builtin; refine wpList_push rowU32 _ rfl _ _ rfl (w.heap.size + 3) u5 o _ q rfl rfl hown ?hz2 ?hl2 ?hm2 ?hb2 ?_)
      case hz2 => rfl
      case hl2 => have := hol.out; omega
      case hm2 => have := hol.out; unfold maxLen; omega
      case hb2 => exact hws
      intro v' w' hown' hb'
      obtain ⟨s, rfl, hs⟩ := hown'.ints
      have hsd := Lib.hid (snoc_lt hod.out (show q < 4294967296 by omega))
      clear hB
      go_wp2_with (go_at_call 81; refine (cut_spec hs hsd.out).mono ?_; rintro e w2 ⟨t, rfl, ht, htn, hb2⟩; have hE3' := ent_up hb2 (ent_below hb' (by omega) (ent_below hbl (by omega) hE3)); have hR := ent_cell hE3' 0; have hRf := ent_frozen hE3' 0)
      refine bodyPost_ret (v := .agg #[.slice t.ao t.n t.c]) (by simp [results, Try.results72, go_sem, hR]) rfl ⟨t, rfl, ?_, ?_, ?_⟩
      · have e : val 4294967296 (o ++ [q]) = val 4294967296 l + val 4294967296 r := by
          have h1 := hval.out
          rw [val_take_all _ l _ (by have := hlen.out; have := hkn.out; omega), val_take_all _ r _ (by have := hlen'.out; have := hkn.out; omega)] at h1
          rw [val_snoc, hol.out]; exact h1
        rw [← e]
        exact ht.kp ((Kp.refl _).setCell hE3' (by decide) _)
      · have := hs.1; have := hol.out; have := hkn.out; simp at *; omega
      · exact (((hbw.trans (hbl.mono (by omega))).trans (hb'.mono (by omega))).trans (hb2.mono (by have := hb'.size; omega))).setCell (by simp; omega) _
set_option maxHeartbeats 800000 in
theorem add_walk2 (ao bo : Option Addr) (n m c d : Nat) (l r : List Nat) (w : World) (h : IntsAt w 113 .u32 ⟨ao, n, c⟩ l) (h' : IntsAt w 113 .u32 ⟨bo, m, d⟩ r) (hl : ∀ d ∈ l, d < 4294967296) (hr : ∀ d ∈ r, d < 4294967296) (hn : n ≤ 1000000000000) (hm : m ≤ 1000000000000) (hmn : m < n) :
    Calls Try.prog 72 #[.agg #[.slice bo m d], .agg #[.slice ao n c]] w fun e w' =>
      ∃ (s : Sl), e = .returned (.agg #[.slice s.ao s.n s.c]) ∧ NatS w' s (val 4294967296 l + val 4294967296 r) ∧ s.n ≤ n + 1 ∧ Below w.heap.size w w' := by
  have hop : Hid (0 < n → ∃ b off, ao = some ⟨b, off, none⟩ ∧ b < w.heap.size ∧ ∀ i, i < n → w.cell? ⟨b, off + i, none⟩ = some (.int .u32 ((dg l i : Nat) : Int))) := h.open
  have hop' : Hid (0 < m → ∃ b off, bo = some ⟨b, off, none⟩ ∧ b < w.heap.size ∧ ∀ i, i < m → w.cell? ⟨b, off + i, none⟩ = some (.int .u32 ((dg r i : Nat) : Int))) := h'.open
  have hlen : Hid (n = l.length) := h.1
  have hlen' : Hid (m = r.length) := h'.1
  clear h h'
  have hll : Hid (∀ d ∈ l, d < 4294967296) := hl
  have hrr : Hid (∀ d ∈ r, d < 4294967296) := hr
  clear hl hr
  go_enter Try.func72, Try.ntmps72
  go_wp2_with (at_make; refine wpList_mk rowU32 _ rfl _ _ rfl (w.heap.size + 3) _ _ _ (n + 1) rfl rfl (by omega) (by omega) (by unfold maxLen; omega) (by simp) ?_; intro v1 w1 ho hb; have hA1 := ent_cell (ent_below hb (by omega) (ents3 w _ _ _).1) 0)
  have hbw : Below w.heap.size w w1 := ((((Below.refl _ _).alloc (Nat.le_refl _) _).alloc (by simp) _).alloc (by simp; omega) _).trans (hb.mono (by omega))
  have hE2 := ent_below hb (by omega) (ents3 w _ _ _).2.1
  have hE3 := ent_below hb (by omega) (ents3 w _ _ _).2.2.1
  go_loopw [5, 6, 26] (fun v cy i wr => ∃ (k : Nat) (o : List Nat) (q : Nat), k ≤ n ∧ i = .int .i64 k ∧ cy = .int .u64 q ∧ q ≤ 1 ∧ Own wr (w.heap.size + 3) 113 .u32 v o ∧ Hid (o.length = k) ∧ Hid (∀ d ∈ o, d < 4294967296) ∧ Hid (val 4294967296 o + 4294967296 ^ k * q = val 4294967296 (l.take k) + val 4294967296 (r.take k)) ∧ Below (w.heap.size + 3) w1 wr) (fun _ _ i _ => n - (intOf i).toNat)
  case atStart => exact ⟨0, [], 0, Nat.zero_le _, rfl, rfl, by omega, ho, rfl, by unfold Hid; simp, by unfold Hid; simp [val], Below.refl _ _⟩
  case round =>
    obtain ⟨k, o, q, hk, rfl, rfl, hq, hown, hol, hod, hval, hbl⟩ := hrel
    have hB := ent_cell (ent_below hbl (by omega) hE2) 0
    have hws : w.heap.size + 3 ≤ wr.heap.size := by have := hbl.size; have := hb.size; simp at this; omega
    by_cases hlt : k < n
    · obtain ⟨b, off, rfl, hbw0, hcell⟩ := hop.out (by omega)
      have hck : wr.cell? ⟨b, off + k, none⟩ = some (.int .u32 ((dg l k : Nat) : Int)) := ((hbl.cell (p := ⟨b, off + k, none⟩) (by simp; omega)).trans (hbw.cell (p := ⟨b, off + k, none⟩) hbw0)).trans (hcell k hlt)
      clear hcell
      have hx : dg l k < 4294967296 := dg_lt hll.out (by omega) k
      by_cases hltm : k < m
      · obtain ⟨b', off', rfl, hbw0', hcell'⟩ := hop'.out (by omega)
        have hck' : wr.cell? ⟨b', off' + k, none⟩ = some (.int .u32 ((dg r k : Nat) : Int)) := ((hbl.cell (p := ⟨b', off' + k, none⟩) (by simp; omega)).trans (hbw.cell (p := ⟨b', off' + k, none⟩) hbw0')).trans (hcell' k hltm)
        clear hcell'
        have hy : dg r k < 4294967296 := dg_lt hrr.out (by omega) k
        have hstep := Lib.hid (add_step (z := q + dg l k + dg r k) hol.out rfl rfl rfl hval.out)
        generalize dg l k = x at *
        generalize dg r k = y at *
        go_wp2_with (at_builtin; refine wpList_push rowU32 _ rfl _ _ rfl (w.heap.size + 3) u5 o _ ((q + x + y) % 4294967296) rfl rfl hown ?hz ?hl ?hm ?hb ?_)
        case hz => rfl
        case hl => have := hol.out; omega
        case hm => have := hol.out; unfold maxLen; omega
        case hb => exact hws
        intro v' w' hown' hb'
        clear hck hck' hB
        go_wp2
        go_roundw
        case rel => exact ⟨k + 1, _, (q + x + y) / 4294967296, by omega, by go_num, rfl, by omega, hown', by unfold Hid; have := hol.out; simp; omega, snoc_lt hod.out (Nat.mod_lt _ (by omega)), hstep.out, hbl.trans hb'⟩
        case measure => simp [intOf]; omega
      · have hstep := Lib.hid (add_step (z := q + dg l k) (y := 0) (r := r) hol.out rfl (dg_big (by have := hlen'.out; omega)) rfl hval.out)
        generalize dg l k = x at *
        go_wp2_with (at_builtin; refine wpList_push rowU32 _ rfl _ _ rfl (w.heap.size + 3) u5 o _ ((q + x) % 4294967296) rfl rfl hown ?hz' ?hl' ?hm' ?hb' ?_)
        case hz' => rfl
        case hl' => have := hol.out; omega
        case hm' => have := hol.out; unfold maxLen; omega
        case hb' => exact hws
        intro v' w' hown' hb'
        clear hck hB
        go_wp2
        go_roundw
        case rel => exact ⟨k + 1, _, (q + x) / 4294967296, by omega, by go_num, rfl, by omega, hown', by unfold Hid; have := hol.out; simp; omega, snoc_lt hod.out (Nat.mod_lt _ (by omega)), hstep.out, hbl.trans hb'⟩
        case measure => simp [intOf]; omega
    · have hkn : Hid (k = n) := by unfold Hid; omega
      go_wp2_with (at_builtin; refine wpList_push rowU32 _ rfl _ _ rfl (w.heap.size + 3) u5 o _ q rfl rfl hown ?hz2 ?hl2 ?hm2 ?hb2 ?_)
      case hz2 => rfl
      case hl2 => have := hol.out; omega
      case hm2 => have := hol.out; unfold maxLen; omega
      case hb2 => exact hws
      intro v' w' hown' hb'
      obtain ⟨s, rfl, hs⟩ := hown'.ints
      have hsd := Lib.hid (snoc_lt hod.out (show q < 4294967296 by omega))
      clear hB
      go_wp2_with (go_at_call 81; refine (cut_spec hs hsd.out).mono ?_; rintro e w2 ⟨t, rfl, ht, htn, hb2⟩; have hE3' := ent_up hb2 (ent_below hb' (by omega) (ent_below hbl (by omega) hE3)); have hR := ent_cell hE3' 0; have hRf := ent_frozen hE3' 0)
      refine bodyPost_ret (v := .agg #[.slice t.ao t.n t.c]) (by simp [results, Try.results72, go_sem, hR]) rfl ⟨t, rfl, ?_, ?_, ?_⟩
      · have e : val 4294967296 (o ++ [q]) = val 4294967296 l + val 4294967296 r := by
          have h1 := hval.out
          rw [val_take_all _ l _ (by have := hlen.out; have := hkn.out; omega), val_take_all _ r _ (by have := hlen'.out; have := hkn.out; omega)] at h1
          rw [val_snoc, hol.out]; exact h1
        rw [← e]
        exact ht.kp ((Kp.refl _).setCell hE3' (by decide) _)
      · have := hs.1; have := hol.out; have := hkn.out; simp at *; omega
      · exact (((hbw.trans (hbl.mono (by omega))).trans (hb'.mono (by omega))).trans (hb2.mono (by have := hb'.size; omega))).setCell (by simp; omega) _
/-- The sum. -/
theorem add_spec {w : World} {s t : Sl} {x y : Nat} (h : NatS w s x) (h' : NatS w t y) (hn : s.n ≤ 1000000000000) (hm : t.n ≤ 1000000000000) :
    Calls Try.prog 72 #[.agg #[.slice s.ao s.n s.c], .agg #[.slice t.ao t.n t.c]] w fun e w' =>
      ∃ u : Sl, e = .returned (.agg #[.slice u.ao u.n u.c]) ∧ NatS w' u (x + y) ∧ u.n ≤ max s.n t.n + 1 ∧ Below w.heap.size w w' := by
  obtain ⟨l, h1, h2, h3, h4⟩ := h
  obtain ⟨r, g1, g2, g3, g4⟩ := h'
  subst h4
  subst g4
  rcases Nat.lt_or_ge s.n t.n with hc | hc
  · refine (add_walk2 t.ao s.ao t.n s.n t.c s.c r l w g1 h1 g2 h2 hm hn hc).mono ?_
    rintro e w' ⟨u, rfl, hu, hun, hb⟩
    exact ⟨u, rfl, by rw [Nat.add_comm]; exact hu, by omega, hb⟩
  · refine (add_walk1 s.ao t.ao s.n t.n s.c t.c l r w h1 g1 h2 g2 hn hm hc).mono ?_
    rintro e w' ⟨u, rfl, hu, hun, hb⟩
    exact ⟨u, rfl, hu, by omega, hb⟩

end Go.Proofs.Ytnjohlimjbmkgaa
