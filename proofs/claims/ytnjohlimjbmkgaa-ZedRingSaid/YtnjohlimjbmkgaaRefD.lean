/- The reference: Of, Cmp. -/
import Derived.Test.YtnjohlimjbmkgaaProg
import Derived.Test.YtnjohlimjbmkgaaOwn
import Derived.Deep.QuietTactic
import Derived.BigQuiet
namespace Go.Proofs.Ytnjohlimjbmkgaa
open Go.RowKit

/-- One digit by ten thousands more. -/
theorem rof_step {x n : Nat} {o : List Nat} (hx : x < 18446744073709551616) (hn : 0 < n) (hd : ∀ d ∈ o, d < 10000) (hv : val 10000 o + 10000 ^ o.length * n = x) (hl : o.length ≤ 4) :
    (∀ d ∈ o ++ [n % 10000], d < 10000) ∧ val 10000 (o ++ [n % 10000]) + 10000 ^ (o ++ [n % 10000]).length * (n / 10000) = x ∧ (n / 10000 = 0 → Norm (o ++ [n % 10000])) ∧ (0 < n / 10000 → (o ++ [n % 10000]).length ≤ 4) ∧ (o ++ [n % 10000]).length ≤ 5 := by
  have e : val 10000 (o ++ [n % 10000]) + 10000 ^ (o ++ [n % 10000]).length * (n / 10000) = x := by
    rw [← hv, val_snoc, List.length_append, List.length_singleton, Nat.pow_succ]
    have h1 := Nat.div_add_mod n 10000
    generalize n / 10000 = u at *
    generalize n % 10000 = v at *
    subst h1
    grind
  refine ⟨snoc_lt hd (Nat.mod_lt _ (by omega)), e, fun h => ?_, fun h => ?_, by simp; omega⟩
  · unfold Norm
    simp
    omega
  · have h2 : 10000 ^ (o ++ [n % 10000]).length * 1 ≤ 10000 ^ (o ++ [n % 10000]).length * (n / 10000) := Nat.mul_le_mul_left _ h
    have h3 : 10000 ^ (o ++ [n % 10000]).length < 10000 ^ 5 := by omega
    have := (Nat.pow_lt_pow_iff_right (by omega)).1 h3
    omega

def ROfRel (w : World) (x : Nat) (nv dv : Value) (wr : World) : Prop := ∃ (n : Nat) (o : List Nat), nv = .int .u64 n ∧ n < 18446744073709551616 ∧ (∀ d ∈ o, d < 10000) ∧ val 10000 o + 10000 ^ o.length * n = x ∧ (n = 0 → Norm o) ∧ (0 < n → o.length ≤ 4) ∧ o.length ≤ 5 ∧
  Own wr (w.heap.size + 1) 3 .i64 dv o ∧ wr.heap[w.heap.size]? = some (.cells #[.slice none 0 0] 26 (0, 0)) ∧ Below w.heap.size w wr

set_option maxHeartbeats 800000 in
theorem rof_spec (x : Nat) (w : World) (hx : x < 18446744073709551616) :
    Calls Try.prog 71 #[.int .u64 (x : Int)] w fun e w' =>
      ∃ u : Sl, e = .returned (.agg #[.slice u.ao u.n u.c]) ∧ RefS w' u x ∧ u.n ≤ 5 ∧ Below w.heap.size w w' := by
  have hE := ents1 w (.cells #[.slice none 0 0] 26)
  have hbx : Below w.heap.size w _ := (Below.refl w.heap.size w).alloc (Nat.le_refl _) (.cells #[.slice none 0 0] 26)
  have hinit : ROfRel w x (.int .u64 x) (.slice none 0 0) _ := ⟨x, [], rfl, hx, by simp, by simp [val], fun _ => norm_nil, fun _ => by simp, by simp, Own.nil _ _ _ _, hE.1, hbx⟩
  clear hE hbx
  go_enter Try.func71, Try.ntmps71
  go_wp2
  go_loopw [0, 3] (fun nv dv wr => ROfRel w x nv dv wr) (fun nv _ _ => (intOf nv).toNat)
  case atStart => exact hinit
  case round =>
    clear hinit
    obtain ⟨n, o, rfl, hn, hd, hv, hno, hl4, hl5, hown, hE, hbl⟩ := hrel
    have hws : w.heap.size + 1 ≤ wr.heap.size := ent_lt hE
    have Hd := Lib.hid hd; clear hd
    have Hv := Lib.hid hv; clear hv
    have Hno := Lib.hid hno; clear hno
    have hl4' := Lib.hid hl4; clear hl4
    by_cases hn0 : 0 < n
    · have hst := rof_step hx hn0 Hd.out Hv.out (hl4'.out hn0)
      have Hst := Lib.hid hst; clear hst
      have hlt2 : n / 10000 < 18446744073709551616 := by omega
      go_wp2_with (at_builtin; refine wpList_push rowInt _ rfl _ _ rfl (w.heap.size + 1) u3 o _ (n % 10000) rfl rfl hown (by first | rfl | omega) (by omega) (by unfold maxLen; omega) hws ?_; intro v' w' hown' hb')
      have hE' := ent_below hb' (by omega) hE
      go_wp2
      go_roundw
      case rel => exact ⟨n / 10000, o ++ [n % 10000], by go_num, hlt2, Hst.out.1, Hst.out.2.1, Hst.out.2.2.1, Hst.out.2.2.2.1, Hst.out.2.2.2.2, hown', hE', hbl.trans (hb'.mono (by omega))⟩
      case measure => simp [intOf]; omega
    · have hn0' : n = 0 := by omega
      subst hn0'
      obtain ⟨t, rfl, hti⟩ := hown.ints
      have hR := ent_cell hE 0
      have hRf := ent_frozen hE 0
      have htl := Lib.hid hti.1
      have HN := Lib.hid (Hno.out rfl)
      clear Hno hl4'
      go_wp2
      refine bodyPost_ret (v := .agg #[.slice t.ao t.n t.c]) (by simp [results, Try.results71, go_sem, hR]) rfl ⟨t, rfl, ⟨o, hti.kp (.inr (.inl rfl)) ((Kp.refl _).setCell (a := ⟨w.heap.size, 0, none⟩) hE (by decide) _), Hd.out, HN.out, by simpa using Hv.out⟩, by have := htl.out; omega, hbl.setCell (by simp) _⟩

set_option maxHeartbeats 800000 in
theorem rcmp_walk (ao bo : Option Addr) (n m c d : Nat) (l r : List Nat) (w : World) (h : IntsAt w 3 .i64 ⟨ao, n, c⟩ l) (h' : IntsAt w 3 .i64 ⟨bo, m, d⟩ r) (hl : ∀ d ∈ l, d < 10000) (hr : ∀ d ∈ r, d < 10000) (hn : n ≤ 1000000000000) (hm : m ≤ 1000000000000) (nl : Norm l) (nr : Norm r) :
    Calls Try.prog 64 #[.agg #[.slice ao n c], .agg #[.slice bo m d]] w fun e w' =>
      e = .returned (.int .i64 (cmpN (val 10000 l) (val 10000 r))) ∧ Below w.heap.size w w' := by
  have hop : Hid (0 < n → ∃ b off, ao = some ⟨b, off, none⟩ ∧ b < w.heap.size ∧ ∀ i, i < n → w.cell? ⟨b, off + i, none⟩ = some (.int .i64 ((dg l i : Nat) : Int))) := h.open
  have hop' : Hid (0 < m → ∃ b off, bo = some ⟨b, off, none⟩ ∧ b < w.heap.size ∧ ∀ i, i < m → w.cell? ⟨b, off + i, none⟩ = some (.int .i64 ((dg r i : Nat) : Int))) := h'.open
  have hlen : Hid (n = l.length) := h.1
  have hlen' : Hid (m = r.length) := h'.1
  clear h h'
  have hll : Hid (∀ d ∈ l, d < 10000) := hl
  have hrr : Hid (∀ d ∈ r, d < 10000) := hr
  have hnl := Lib.hid nl
  have hnr := Lib.hid nr
  clear hl hr nl nr
  have hbx : Below w.heap.size w ((w.alloc (.cells #[.slice ao n c] 26)).alloc (.cells #[.slice bo m d] 26)) := ((Below.refl _ _).alloc (Nat.le_refl _) _).alloc (by simp) _
  rcases Nat.lt_trichotomy n m with hc | hc | hc
  · have hres := Lib.hid (cmpN_lt (hnr.out.len_lt (B := 10000) (l := l) (by omega) hll.out (by have := hlen.out; have := hlen'.out; omega)))
    go_enter Try.func64, Try.ntmps64
    go_wp2
    go_ret
    exact ⟨by rw [hres.out]; rfl, hbx⟩
  · subst hc
    obtain ⟨hE1, hE2, hWs⟩ := ents2 w (.cells #[.slice ao n c] 26) (.cells #[.slice bo n d] 26)
    generalize hW : ((w.alloc (.cells #[.slice ao n c] 26)).alloc (.cells #[.slice bo n d] 26)) = W at hbx hE1 hE2 hWs
    have HWs := Lib.hid hWs; clear hWs
    have HW := Lib.hid hW; clear hW
    go_enter Try.func64, Try.ntmps64
    go_wp2
    rw [HW.out]
    go_loopw [5] (fun i wr => ∃ k : Nat, k ≤ n ∧ i = .int .i64 ((k : Int) - 1) ∧ Hid (∀ j, k ≤ j → j < n → dg l j = dg r j) ∧ Below (w.heap.size + 2) W wr) (fun i _ => (intOf i + 1).toNat)
    case atStart => exact ⟨n, Nat.le_refl _, rfl, by unfold Hid; intro j a b; omega, Below.refl _ _⟩
    case round =>
      obtain ⟨k, hk, rfl, heq, hbl⟩ := hrel
      by_cases hlt : 0 < k
      · obtain ⟨j, rfl⟩ : ∃ j, k = j + 1 := ⟨k - 1, by omega⟩
        obtain ⟨b, off, rfl, hbw0, hcell⟩ := hop.out (by omega)
        obtain ⟨b', off', rfl, hbw0', hcell'⟩ := hop'.out (by omega)
        have hA := ent_cell (ent_below hbl (by omega) hE1) 0
        have hB := ent_cell (ent_below hbl (by omega) hE2) 0
        have hck : wr.cell? ⟨b, off + j, none⟩ = some (.int .i64 ((dg l j : Nat) : Int)) := ((hbl.cell (p := ⟨b, off + j, none⟩) (by simp; omega)).trans (hbx.cell (p := ⟨b, off + j, none⟩) hbw0)).trans (hcell j (by omega))
        have hck' : wr.cell? ⟨b', off' + j, none⟩ = some (.int .i64 ((dg r j : Nat) : Int)) := ((hbl.cell (p := ⟨b', off' + j, none⟩) (by simp; omega)).trans (hbx.cell (p := ⟨b', off' + j, none⟩) hbw0')).trans (hcell' j (by omega))
        clear hcell hcell'
        have hj1 : (0 : Int) ≤ (j : Int) := by omega
        have hj2 : (j : Int) < (n : Int) := by omega
        by_cases hxy : dg l j = dg r j
        · rw [hxy] at hck
          have heq' : Hid (∀ i, j ≤ i → i < n → dg l i = dg r i) := fun i a b => by
            by_cases hij : i = j
            · rw [hij]; exact hxy
            · exact heq.out i (by omega) b
          clear hxy
          have hxb : dg r j < 10000 := dg_lt hrr.out (by omega) j
          generalize dg r j = x at *
          go_wp2
          go_quiet (fail)
          go_wp2
          go_quiet (fail)
          go_wp2
          go_roundw
          case rel => first | exact ⟨j, by omega, rfl, heq', below_drewN hbl _⟩ | exact ⟨j, by omega, rfl, heq', below_drewN (below_drewN hbl _) _⟩
          case measure => simp [intOf]
        · rcases Nat.lt_or_ge (dg l j) (dg r j) with hlt2 | hge2
          · have hres := Lib.hid (cmpN_lt (val_lt_at (B := 10000) (l := l) (m := r) (i := j) (by have := hlen.out; have := hlen'.out; omega) (by have := hlen.out; omega) hll.out hlt2 (fun i a b => heq.out i (by omega) (by have := hlen.out; omega))))
            clear hxy
            generalize dg r j = y at *
            generalize dg l j = x at *
            have hxy3 : (x : Int) < (y : Int) := by omega
            go_wp2
            go_quiet (fail)
            go_wp2
            go_ret
            exact ⟨by rw [hres.out]; rfl, below_drewN (hbx.trans (hbl.mono (by omega))) _⟩
          · have hres := Lib.hid (cmpN_gt (val_lt_at (B := 10000) (l := r) (m := l) (i := j) (by have := hlen.out; have := hlen'.out; omega) (by have := hlen'.out; omega) hrr.out (by omega) (fun i a b => (heq.out i (by omega) (by have := hlen'.out; omega)).symm)))
            have hxy3 : dg r j < dg l j := by omega
            clear hxy hge2
            generalize dg r j = y at *
            generalize dg l j = x at *
            have hxy4 : ¬ (x : Int) < (y : Int) := by omega
            have hxy5 : (y : Int) < (x : Int) := by omega
            go_wp2
            go_quiet (fail)
            go_wp2
            go_quiet (fail)
            go_wp2
            go_ret
            exact ⟨by rw [hres.out]; rfl, below_drewN (below_drewN (hbx.trans (hbl.mono (by omega))) _) _⟩
      · obtain rfl : k = 0 := by omega
        have hres : l = r := eq_of_digits (by have := hlen.out; have := hlen'.out; omega) (fun i a => heq.out i (by omega) (by have := hlen.out; omega))
        have hres := Lib.hid hres
        go_wp2
        go_ret
        exact ⟨by rw [hres.out, cmpN_eq]; rfl, hbx.trans (hbl.mono (by omega))⟩
  · have hres := Lib.hid (cmpN_gt (hnl.out.len_lt (B := 10000) (l := r) (by omega) hrr.out (by have := hlen.out; have := hlen'.out; omega)))
    go_enter Try.func64, Try.ntmps64
    go_wp2
    go_ret
    exact ⟨by rw [hres.out]; rfl, hbx⟩

/-- Which is the greater. -/
theorem rcmp_spec {w : World} {s t : Sl} {x y : Nat} (h : RefS w s x) (h' : RefS w t y) (hn : s.n ≤ 1000000000000) (hm : t.n ≤ 1000000000000) :
    Calls Try.prog 64 #[.agg #[.slice s.ao s.n s.c], .agg #[.slice t.ao t.n t.c]] w fun e w' =>
      e = .returned (.int .i64 (cmpN x y)) ∧ Below w.heap.size w w' := by
  obtain ⟨l, h1, h2, h3, h4⟩ := h
  obtain ⟨r, g1, g2, g3, g4⟩ := h'
  subst h4
  subst g4
  exact rcmp_walk s.ao t.ao s.n t.n s.c t.c l r w h1 g1 h2 g2 hn hm h3 g3

end Go.Proofs.Ytnjohlimjbmkgaa
