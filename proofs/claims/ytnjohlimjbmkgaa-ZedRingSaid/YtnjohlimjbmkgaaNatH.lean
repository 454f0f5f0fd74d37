/- nat: Mul. -/
import Derived.Test.YtnjohlimjbmkgaaProg
import Derived.Test.YtnjohlimjbmkgaaNatA
import Derived.Test.YtnjohlimjbmkgaaOwn
namespace Go.Proofs.Ytnjohlimjbmkgaa
open Go.RowKit

set_option maxHeartbeats 2000000 in
theorem mul_walk (ao bo : Option Addr) (n m c d : Nat) (l r : List Nat) (w : World) (h : IntsAt w 113 .u32 ⟨ao, n, c⟩ l) (h' : IntsAt w 113 .u32 ⟨bo, m, d⟩ r) (hl : ∀ d ∈ l, d < 4294967296) (hr : ∀ d ∈ r, d < 4294967296) (hn : n ≤ 1000000000000) (hm : m ≤ 1000000000000) :
    Calls Try.prog 74 #[.agg #[.slice ao n c], .agg #[.slice bo m d]] w fun e w' =>
      ∃ (s : Sl), e = .returned (.agg #[.slice s.ao s.n s.c]) ∧ NatS w' s (val 4294967296 l * val 4294967296 r) ∧ s.n ≤ n + m ∧ Below w.heap.size w w' := by
  have hop : Hid (0 < n → ∃ b off, ao = some ⟨b, off, none⟩ ∧ b < w.heap.size ∧ ∀ i, i < n → w.cell? ⟨b, off + i, none⟩ = some (.int .u32 ((dg l i : Nat) : Int))) := h.open
  have hop' : Hid (0 < m → ∃ b off, bo = some ⟨b, off, none⟩ ∧ b < w.heap.size ∧ ∀ i, i < m → w.cell? ⟨b, off + i, none⟩ = some (.int .u32 ((dg r i : Nat) : Int))) := h'.open
  have hlen : Hid (n = l.length) := h.1
  have hlen' : Hid (m = r.length) := h'.1
  clear h h'
  have hll : Hid (∀ d ∈ l, d < 4294967296) := hl
  have hrr : Hid (∀ d ∈ r, d < 4294967296) := hr
  clear hl hr
  go_enter Try.func74, Try.ntmps74
  go_wp2_with (at_make; refine wpList_mkfull rowU32 _ rfl _ _ rfl (w.heap.size + 3) _ _ _ _ (n + m) rfl rfl (by omega) (by omega) (by omega) (by unfold maxLen; omega) (by simp) ?_; intro w1 ho hb hsz; have hA1 := ent_cell (ent_below hb (by omega) (ents3 w _ _ _).1) 0)
  have hbw : Below w.heap.size w w1 := ((((Below.refl _ _).alloc (Nat.le_refl _) _).alloc (by simp) _).alloc (by simp; omega) _).trans (hb.mono (by omega))
  have hE1 := ent_below hb (by omega) (ents3 w _ _ _).1
  have hE2 := ent_below hb (by omega) (ents3 w _ _ _).2.1
  have hE3 := ent_below hb (by omega) (ents3 w _ _ _).2.2.1
  have hw1 : w.heap.size + 3 ≤ w1.heap.size := by have := hb.size; simp at this; omega
  clear hb
  replace ho : Own w1 (w.heap.size + 3) 113 .u32 (.slice (some ⟨w.heap.size + 1 + 1 + 1, 0, none⟩) (n + m) (n + m)) (List.replicate (n + m) 0) := by simpa using ho
  go_loopw [22] (fun i wr => ∃ (k : Nat) (o : List Nat), k ≤ n ∧ i = .int .i64 k ∧ Own wr (w.heap.size + 3) 113 .u32 (.slice (some ⟨w.heap.size + 1 + 1 + 1, 0, none⟩) (n + m) (n + m)) o ∧ Hid (o.length = n + m) ∧ Hid (∀ d ∈ o, d < 4294967296) ∧ Hid (∀ j, k + m ≤ j → dg o j = 0) ∧ Hid (val 4294967296 o = val 4294967296 (l.take k) * val 4294967296 r) ∧ Below (w.heap.size + 3) w1 wr) (fun i _ => n - (intOf i).toNat)
  case atStart => exact ⟨0, _, Nat.zero_le _, rfl, ho, by unfold Hid; simp, by unfold Hid; simp, by unfold Hid; intro j _; simp [dg, List.getElem?_replicate]; split <;> rfl, by unfold Hid; simp [val, val_replicate], Below.refl _ _⟩
  case round =>
    obtain ⟨i, o, hi, rfl, hown, hol, hod, hoz, hval, hbl⟩ := hrel
    have hA := ent_cell (ent_below hbl (by omega) hE1) 0
    have hB := ent_cell (ent_below hbl (by omega) hE2) 0
    by_cases hlt : i < n
    · obtain ⟨b, off, rfl, hbw0, hcell⟩ := hop.out (by omega)
      have hck : wr.cell? ⟨b, off + i, none⟩ = some (.int .u32 ((dg l i : Nat) : Int)) := ((hbl.cell (p := ⟨b, off + i, none⟩) (by simp; omega)).trans (hbw.cell (p := ⟨b, off + i, none⟩) hbw0)).trans (hcell i hlt)
      clear hcell
      have hx : dg l i < 4294967296 := dg_lt hll.out (by omega) i
      generalize hxe : dg l i = x at *
      have HX := Lib.hid hxe; clear hxe
      obtain ⟨wo, hwo⟩ : ∃ wo : World, wo = wr := ⟨_, rfl⟩
      subst hwo
      go_wp2
      go_loopw [8, 30] (fun cy u wr => ∃ (k : Nat) (p : List Nat) (q : Nat), k ≤ m ∧ u = .int .i64 k ∧ cy = .int .u64 q ∧ q < 4294967296 ∧ Own wr (w.heap.size + 3) 113 .u32 (.slice (some ⟨w.heap.size + 1 + 1 + 1, 0, none⟩) (n + m) (n + m)) p ∧ Hid (p.length = n + m) ∧ Hid (∀ d ∈ p, d < 4294967296) ∧ Hid (∀ j, i + m ≤ j → dg p j = 0) ∧ Hid (val 4294967296 p + 4294967296 ^ (i + k) * q = val 4294967296 (l.take i) * val 4294967296 r + 4294967296 ^ i * x * val 4294967296 (r.take k)) ∧ Below (w.heap.size + 3) w1 wr) (fun _ u _ => m - (intOf u).toNat)
      case atStart => exact ⟨0, o, 0, Nat.zero_le _, rfl, rfl, by omega, hown, hol, hod, hoz, by unfold Hid; simp [val]; exact hval.out, hbl⟩
      case round =>
        clear hown hol hod hoz hval hbl hA hB hck
        obtain ⟨k, p, q, hk, rfl, rfl, hq, hown, hol, hod, hoz, hval, hbl⟩ := hrel
        have hB := ent_cell (ent_below hbl (by omega) hE2) 0
        by_cases hlt2 : k < m
        · obtain ⟨b', off', rfl, hbw0', hcell'⟩ := hop'.out (by omega)
          have hck' : wr.cell? ⟨b', off' + k, none⟩ = some (.int .u32 ((dg r k : Nat) : Int)) := ((hbl.cell (p := ⟨b', off' + k, none⟩) (by simp; omega)).trans (hbw.cell (p := ⟨b', off' + k, none⟩) hbw0')).trans (hcell' k hlt2)
          clear hcell'
          have hy : dg r k < 4294967296 := dg_lt hrr.out (by omega) k
          have hz : dg p (i + k) < 4294967296 := dg_lt hod.out (by omega) (i + k)
          obtain ⟨hoc, hof, _, _⟩ := hown.slot (i + k) (by have := hol.out; omega)
          have hstep := Lib.hid (mul_step (B := 4294967296) (by have := hol.out; omega) rfl rfl hval.out)
          generalize dg r k = y at *
          generalize dg p (i + k) = z at *
          obtain ⟨hx0, hxm⟩ := mul_lim x y hx hy
          obtain ⟨hu1, hu2⟩ := mul_bound q x y z hq hx hy hz
          have hst := hown.store (i + k) ((q + (x * y + z)) % 4294967296)
          simp only [Int.natCast_emod, Int.natCast_add, Int.natCast_mul, Int.cast_ofNat_Int] at hst
          have hoz' : Hid (∀ j, i + m ≤ j → dg (p.set (i + k) ((q + (x * y + z)) % 4294967296)) j = 0) := fun j hj => by rw [dg_set_ne (by omega)]; exact hoz.out j hj
          clear hx0 hxm
          obtain ⟨hx0, hxm⟩ := mul_lim x y hx hy
          go_wp2
          go_roundw
          case rel => exact ⟨k + 1, _, (q + (x * y + z)) / 4294967296, by omega, by go_num, rfl, hu1, hst.1, by unfold Hid; rw [List.length_set]; exact hol.out, set_lt hod.out (Nat.mod_lt _ (by omega)), hoz', hstep.out, hbl.trans hst.2⟩
          case measure => simp [intOf]; omega
        · have hkm : Hid (k = m) := by unfold Hid; omega
          have hv2 := hval.out
          rw [hkm.out] at hv2
          have hrow := Lib.hid (mul_row (by have := hol.out; omega) hlen'.out.symm HX.out (hoz.out (i + m) (Nat.le_refl _)) hv2)
          clear hv2
          obtain ⟨hoc, hof, _, _⟩ := hown.slot (i + m) (by have := hol.out; omega)
          have hoz' : Hid (∀ j, i + 1 + m ≤ j → dg (p.set (i + m) q) j = 0) := fun j hj => by rw [dg_set_ne (by omega)]; exact hoz.out j (by omega)
          have hst := hown.store (i + m) q
          have hA := ent_cell (ent_below hbl (by omega) hE1) 0
          go_wp2
          go_roundw
          case rel => exact ⟨i + 1, _, by omega, by go_num, hst.1, by unfold Hid; rw [List.length_set]; exact hol.out, set_lt hod.out hq, hoz', hrow.out, hbl.trans hst.2⟩
          case measure => simp [intOf]; omega
    · have hkn : Hid (val 4294967296 o = val 4294967296 l * val 4294967296 r) := by
        unfold Hid
        rw [hval.out, val_take_all _ _ _ (by have := hlen.out; omega)]
      have hsi : IntsAt wr 113 .u32 ⟨some ⟨w.heap.size + 1 + 1 + 1, 0, none⟩, n + m, n + m⟩ o := by
        obtain ⟨s, hs, hi⟩ := hown.ints
        obtain ⟨a, b, c⟩ := s
        simp only [Value.slice.injEq] at hs
        obtain ⟨rfl, rfl, rfl⟩ := hs
        exact hi
      go_wp2_with (go_at_call 81; refine (cut_spec hsi hod.out).mono ?_; rintro e w2 ⟨t, rfl, ht, htn, hb2⟩; have hE3' := ent_up hb2 (ent_below hbl (by omega) hE3); have hR := ent_cell hE3' 0; have hRf := ent_frozen hE3' 0)
      rw [hkn.out] at ht
      refine bodyPost_ret (v := .agg #[.slice t.ao t.n t.c]) (by simp [results, Try.results74, go_sem, hR]) rfl ⟨t, rfl, ht.kp ((Kp.refl _).setCell hE3' (by decide) _), htn, ?_⟩
      exact ((hbw.trans (hbl.mono (by omega))).trans (hb2.mono (by have := hbl.size; omega))).setCell (by simp; omega) _

/-- The product. -/
theorem mul_spec {w : World} {s t : Sl} {x y : Nat} (h : NatS w s x) (h' : NatS w t y) (hn : s.n ≤ 1000000000000) (hm : t.n ≤ 1000000000000) :
    Calls Try.prog 74 #[.agg #[.slice s.ao s.n s.c], .agg #[.slice t.ao t.n t.c]] w fun e w' =>
      ∃ u : Sl, e = .returned (.agg #[.slice u.ao u.n u.c]) ∧ NatS w' u (x * y) ∧ u.n ≤ s.n + t.n ∧ Below w.heap.size w w' := by
  obtain ⟨l, h1, h2, h3, h4⟩ := h
  obtain ⟨r, g1, g2, g3, g4⟩ := h'
  subst h4
  subst g4
  exact mul_walk s.ao t.ao s.n t.n s.c t.c l r w h1 g1 h2 g2 hn hm

end Go.Proofs.Ytnjohlimjbmkgaa
