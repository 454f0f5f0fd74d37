/- nat: Cmp. -/
import Derived.Test.YtnjohlimjbmkgaaProg
import Derived.Test.YtnjohlimjbmkgaaOwn
import Derived.Deep.QuietTactic
import Derived.BigQuiet
namespace Go.Proofs.Ytnjohlimjbmkgaa
open Go.RowKit

set_option maxHeartbeats 800000 in
theorem cmp_walk (ao bo : Option Addr) (n m c d : Nat) (l r : List Nat) (w : World) (h : IntsAt w 113 .u32 ⟨ao, n, c⟩ l) (h' : IntsAt w 113 .u32 ⟨bo, m, d⟩ r) (hl : ∀ d ∈ l, d < 4294967296) (hr : ∀ d ∈ r, d < 4294967296) (hn : n ≤ 1000000000000) (hm : m ≤ 1000000000000) (nl : Norm l) (nr : Norm r) :
    Calls Try.prog 46 #[.agg #[.slice ao n c], .agg #[.slice bo m d]] w fun e w' =>
      e = .returned (.int .i64 (cmpN (val 4294967296 l) (val 4294967296 r))) ∧ Below w.heap.size w w' := by
  have hop : Hid (0 < n → ∃ b off, ao = some ⟨b, off, none⟩ ∧ b < w.heap.size ∧ ∀ i, i < n → w.cell? ⟨b, off + i, none⟩ = some (.int .u32 ((dg l i : Nat) : Int))) := h.open
  have hop' : Hid (0 < m → ∃ b off, bo = some ⟨b, off, none⟩ ∧ b < w.heap.size ∧ ∀ i, i < m → w.cell? ⟨b, off + i, none⟩ = some (.int .u32 ((dg r i : Nat) : Int))) := h'.open
  have hlen : Hid (n = l.length) := h.1
  have hlen' : Hid (m = r.length) := h'.1
  clear h h'
  have hll : Hid (∀ d ∈ l, d < 4294967296) := hl
  have hrr : Hid (∀ d ∈ r, d < 4294967296) := hr
  have hnl := Lib.hid nl
  have hnr := Lib.hid nr
  clear hl hr nl nr
  have hbx : Below w.heap.size w ((w.alloc (.cells #[.slice ao n c] 31)).alloc (.cells #[.slice bo m d] 31)) := ((Below.refl _ _).alloc (Nat.le_refl _) _).alloc (by simp) _
  rcases Nat.lt_trichotomy n m with hc | hc | hc
  · have hres := Lib.hid (cmpN_lt (hnr.out.len_lt (B := 4294967296) (l := l) (by omega) hll.out (by have := hlen.out; have := hlen'.out; omega)))
    go_enter Try.func46, Try.ntmps46
    go_wp2
    go_ret
    exact ⟨by rw [hres.out]; rfl, hbx⟩
  · subst hc
    obtain ⟨hE1, hE2, hWs⟩ := ents2 w (.cells #[.slice ao n c] 31) (.cells #[.slice bo n d] 31)
    generalize hW : ((w.alloc (.cells #[.slice ao n c] 31)).alloc (.cells #[.slice bo n d] 31)) = W at hbx hE1 hE2 hWs
    have HWs := Lib.hid hWs; clear hWs
    have HW := Lib.hid hW; clear hW
    go_enter Try.func46, Try.ntmps46
    go_wp2
    rw [HW.out]
    go_loopw [5] (fun i wr => ∃ k : Nat, k ≤ n ∧ i = .int .i64 ((k : Int) - 1) ∧ Hid (∀ j, k ≤ j → j < n → dg l j = dg r j) ∧ Below (w.heap.size + 2) W wr) (fun i _ => (intOf i + 1).toNat)
    case atStart => exact ⟨n, Nat.le_refl _, rfl, by unfold Hid; intro j a b; omega, Below.refl _ _⟩
    case round =>
      obtain ⟨k, hk, rfl, heq, hbl⟩ := hrel
      by_cases hlt : 0 < k
      · obtain ⟨j, rfl⟩ : ∃ j, k = j + 1 := ⟨k - 1, by omega⟩
        obtain ⟨b, off, rfl, hbw0, hcell⟩ := hop.out (by omega)
        obtain ⟨b', off', rfl, hbw0', hcell'⟩ := hop'.out (by omega)
        have hA := ent_cell (ent_below hbl (by omega) hE1) 0
        have hB := ent_cell (ent_below hbl (by omega) hE2) 0
        have hck : wr.cell? ⟨b, off + j, none⟩ = some (.int .u32 ((dg l j : Nat) : Int)) := ((hbl.cell (p := ⟨b, off + j, none⟩) (by simp; omega)).trans (hbx.cell (p := ⟨b, off + j, none⟩) hbw0)).trans (hcell j (by omega))
        have hck' : wr.cell? ⟨b', off' + j, none⟩ = some (.int .u32 ((dg r j : Nat) : Int)) := ((hbl.cell (p := ⟨b', off' + j, none⟩) (by simp; omega)).trans (hbx.cell (p := ⟨b', off' + j, none⟩) hbw0')).trans (hcell' j (by omega))
        clear hcell hcell'
        have hj1 : (0 : Int) ≤ (j : Int) := by omega
        have hj2 : (j : Int) < (n : Int) := by omega
        by_cases hxy : dg l j = dg r j
        · rw [hxy] at hck
          have heq' : Hid (∀ i, j ≤ i → i < n → dg l i = dg r i) := fun i a b => by
            by_cases hij : i = j
            · rw [hij]; exact hxy
            · exact heq.out i (by omega) b
          clear hxy
          generalize dg r j = x at *
          go_wp2
          go_quiet (fail)
          go_wp2
          go_roundw
          case rel => exact ⟨j, by omega, rfl, heq', below_drewN hbl _⟩
          case measure => simp [intOf]
        · rcases Nat.lt_or_ge (dg l j) (dg r j) with hlt2 | hge2
          · have hres := Lib.hid (cmpN_lt (val_lt_at (B := 4294967296) (l := l) (m := r) (i := j) (by have := hlen.out; have := hlen'.out; omega) (by have := hlen.out; omega) hll.out hlt2 (fun i a b => heq.out i (by omega) (by have := hlen.out; omega))))
            clear hxy
            generalize dg r j = y at *
            generalize dg l j = x at *
            have hxy2 : ((x : Int) == (y : Int)) = false := by simp; omega
            have hxy3 : (x : Int) < (y : Int) := by omega
            go_wp2
            go_quiet (fail)
            go_wp2
            go_quiet (fail)
            go_wp2
            go_ret
            exact ⟨by rw [hres.out]; rfl, below_drewN (below_drewN (hbx.trans (hbl.mono (by omega))) _) _⟩
          · have hres := Lib.hid (cmpN_gt (val_lt_at (B := 4294967296) (l := r) (m := l) (i := j) (by have := hlen.out; have := hlen'.out; omega) (by have := hlen'.out; omega) hrr.out (by omega) (fun i a b => (heq.out i (by omega) (by have := hlen'.out; omega)).symm)))
            have hxy3 : dg r j < dg l j := by omega
            clear hxy hge2
            generalize dg r j = y at *
            generalize dg l j = x at *
            have hxy2 : ((x : Int) == (y : Int)) = false := by simp; omega
            have hxy4 : ¬ (x : Int) < (y : Int) := by omega
            go_wp2
            go_quiet (fail)
            go_wp2
            go_quiet (fail)
            go_wp2
            go_ret
            exact ⟨by rw [hres.out]; rfl, below_drewN (below_drewN (hbx.trans (hbl.mono (by omega))) _) _⟩
      · obtain rfl : k = 0 := by omega
        have hres : l = r := eq_of_digits (by have := hlen.out; have := hlen'.out; omega) (fun i a => heq.out i (by omega) (by have := hlen.out; omega))
        have hres := Lib.hid hres
        go_wp2
        go_ret
        exact ⟨by rw [hres.out, cmpN_eq]; rfl, hbx.trans (hbl.mono (by omega))⟩
  · have hres := Lib.hid (cmpN_gt (hnl.out.len_lt (B := 4294967296) (l := r) (by omega) hrr.out (by have := hlen.out; have := hlen'.out; omega)))
    go_enter Try.func46, Try.ntmps46
    go_wp2
    go_ret
    exact ⟨by rw [hres.out]; rfl, hbx⟩

/-- Which is the greater. -/
theorem cmp_spec {w : World} {s t : Sl} {x y : Nat} (h : NatS w s x) (h' : NatS w t y) (hn : s.n ≤ 1000000000000) (hm : t.n ≤ 1000000000000) :
    Calls Try.prog 46 #[.agg #[.slice s.ao s.n s.c], .agg #[.slice t.ao t.n t.c]] w fun e w' =>
      e = .returned (.int .i64 (cmpN x y)) ∧ Below w.heap.size w w' := by
  obtain ⟨l, h1, h2, h3, h4⟩ := h
  obtain ⟨r, g1, g2, g3, g4⟩ := h'
  subst h4
  subst g4
  exact cmp_walk s.ao t.ao s.n t.n s.c t.c l r w h1 g1 h2 g2 hn hm h3 g3

end Go.Proofs.Ytnjohlimjbmkgaa
