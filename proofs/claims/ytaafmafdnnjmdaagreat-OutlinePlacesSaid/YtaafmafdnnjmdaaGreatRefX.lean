/- The reference: Of, Cmp. The reference: Add, Less. The reference: Mul, Small. The reference: Small, Div. The reference: Div. The reference: Gcd, Two. A text's length. -/
import Derived.Test.YtaafmafdnnjmdaaGreatProg
import Derived.Test.YtaafmafdnnjmdaaGreatBase
import Derived.Deep.QuietTactic
import Derived.BigQuiet
import Derived.Test.YtaafmafdnnjmdaaGreatRefU
import Derived.Deep.DeepCutAuto
import Derived.IntWalk
import Derived.Deep.RegionWith
import Derived.Deep.RegionLaw
import Derived.Deep.LoopGhost
import Derived.Deep.RegionHeld3
import Derived.Deep.CutBlock
import Derived.Test.YtaafmafdnnjmdaaGreatNatX
set_option linter.unusedSimpArgs false
set_option linter.unusedVariables false
namespace Go.Proofs.YtaafmafdnnjmdaaGreat
open Go.RowKit

/-- One digit by ten thousands more. -/
theorem rof_step {x n : Nat} {o : List Nat} (hx : x < 18446744073709551616) (hn : 0 < n) (hd : ∀ d ∈ o, d < 10000) (hv : val 10000 o + 10000 ^ o.length * n = x) (hl : o.length ≤ 4) :
    (∀ d ∈ o ++ [n % 10000], d < 10000) ∧ val 10000 (o ++ [n % 10000]) + 10000 ^ (o ++ [n % 10000]).length * (n / 10000) = x ∧ (n / 10000 = 0 → Norm (o ++ [n % 10000])) ∧ (0 < n / 10000 → (o ++ [n % 10000]).length ≤ 4) ∧ (o ++ [n % 10000]).length ≤ 5 := by
  have e : val 10000 (o ++ [n % 10000]) + 10000 ^ (o ++ [n % 10000]).length * (n / 10000) = x := by
    rw [← hv, val_snoc, List.length_append, List.length_singleton, Nat.pow_succ]
    have h1 := Nat.div_add_mod n 10000
    generalize n / 10000 = u at *
    generalize n % 10000 = v at *
    subst h1
    grind
  refine ⟨snoc_lt hd (Nat.mod_lt _ (by omega)), e, fun h => ?_, fun h => ?_, by simp; omega⟩
  · unfold Norm
    simp
    omega
  · have h2 : 10000 ^ (o ++ [n % 10000]).length * 1 ≤ 10000 ^ (o ++ [n % 10000]).length * (n / 10000) := Nat.mul_le_mul_left _ h
    have h3 : 10000 ^ (o ++ [n % 10000]).length < 10000 ^ 5 := by omega
    have := (Nat.pow_lt_pow_iff_right (by omega)).1 h3
    omega

def ROfRel (w : World) (x : Nat) (nv dv : Value) (wr : World) : Prop := ∃ (n : Nat) (o : List Nat), nv = .int .u64 n ∧ n < 18446744073709551616 ∧ (∀ d ∈ o, d < 10000) ∧ val 10000 o + 10000 ^ o.length * n = x ∧ (n = 0 → Norm o) ∧ (0 < n → o.length ≤ 4) ∧ o.length ≤ 5 ∧
  Own wr (w.heap.size + 1) 3 .i64 dv o ∧ wr.heap[w.heap.size]? = some (.cells #[.slice none 0 0] 38 (0, 0)) ∧ Below w.heap.size w wr

set_option maxHeartbeats 800000 in
theorem rof_spec (x : Nat) (w : World) (hx : x < 18446744073709551616) :
    Calls Tryz.prog 93 #[.int .u64 (x : Int)] w fun e w' =>
      ∃ u : Sl, e = .returned (.agg #[.slice u.ao u.n u.c]) ∧ RefS w' u x ∧ u.n ≤ 5 ∧ Below w.heap.size w w' := by
  have hE := ents1 w (.cells #[.slice none 0 0] 38)
  have hbx : Below w.heap.size w _ := (Below.refl w.heap.size w).alloc (Nat.le_refl _) (.cells #[.slice none 0 0] 38)
  have hinit : ROfRel w x (.int .u64 x) (.slice none 0 0) _ := ⟨x, [], rfl, hx, by simp, by simp [val], fun _ => norm_nil, fun _ => by simp, by simp, Own.nil _ _ _ _, hE.1, hbx⟩
  clear hE hbx
  go_enter Tryz.func93, Tryz.ntmps93
  go_wp2
  go_loopw [0, 3] (fun nv dv wr => ROfRel w x nv dv wr) (fun nv _ _ => (intOf nv).toNat)
  case atStart => exact hinit
  case round =>
    clear hinit
    obtain ⟨n, o, rfl, hn, hd, hv, hno, hl4, hl5, hown, hE, hbl⟩ := hrel
    have hws : w.heap.size + 1 ≤ wr.heap.size := ent_lt hE
    have Hd := Lib.hid hd; clear hd
    have Hv := Lib.hid hv; clear hv
    have Hno := Lib.hid hno; clear hno
    have hl4' := Lib.hid hl4; clear hl4
    by_cases hn0 : 0 < n
    · have hst := rof_step hx hn0 Hd.out Hv.out (hl4'.out hn0)
      have Hst := Lib.hid hst; clear hst
      have hlt2 : n / 10000 < 18446744073709551616 := by omega
      go_wp2_with (at_builtin; refine wpList_push rowInt _ rfl _ _ rfl (w.heap.size + 1) u3 o _ (n % 10000) rfl rfl hown (by first | rfl | omega) (by omega) (by unfold maxLen; omega) hws ?_; intro v' w' hown' hb')
      have hE' := ent_below hb' (by omega) hE
      go_wp2
      go_roundw
      case rel => exact ⟨n / 10000, o ++ [n % 10000], by go_num, hlt2, Hst.out.1, Hst.out.2.1, Hst.out.2.2.1, Hst.out.2.2.2.1, Hst.out.2.2.2.2, hown', hE', hbl.trans (hb'.mono (by omega))⟩
      case measure => simp [intOf]; omega
    · have hn0' : n = 0 := by omega
      subst hn0'
      obtain ⟨t, rfl, hti⟩ := hown.ints
      have hR := ent_cell hE 0
      have hRf := ent_frozen hE 0
      have htl := Lib.hid hti.1
      have HN := Lib.hid (Hno.out rfl)
      clear Hno hl4'
      go_wp2
      refine bodyPost_ret (v := .agg #[.slice t.ao t.n t.c]) (by simp [results, Tryz.results93, go_sem, hR]) rfl ⟨t, rfl, ⟨o, hti.kp (.inr (.inl rfl)) ((Kp.refl _).setCell (a := ⟨w.heap.size, 0, none⟩) hE (by decide) _), Hd.out, HN.out, by simpa using Hv.out⟩, by have := htl.out; omega, hbl.setCell (by simp) _⟩

set_option maxHeartbeats 800000 in
theorem rcmp_walk (ao bo : Option Addr) (n m c d : Nat) (l r : List Nat) (w : World) (h : IntsAt w 3 .i64 ⟨ao, n, c⟩ l) (h' : IntsAt w 3 .i64 ⟨bo, m, d⟩ r) (hl : ∀ d ∈ l, d < 10000) (hr : ∀ d ∈ r, d < 10000) (hn : n ≤ 1000000000000) (hm : m ≤ 1000000000000) (nl : Norm l) (nr : Norm r) :
    Calls Tryz.prog 39 #[.agg #[.slice ao n c], .agg #[.slice bo m d]] w fun e w' =>
      e = .returned (.int .i64 (cmpN (val 10000 l) (val 10000 r))) ∧ Below w.heap.size w w' := by
  have hop : Hid (0 < n → ∃ b off, ao = some ⟨b, off, none⟩ ∧ b < w.heap.size ∧ ∀ i, i < n → w.cell? ⟨b, off + i, none⟩ = some (.int .i64 ((dg l i : Nat) : Int))) := h.open
  have hop' : Hid (0 < m → ∃ b off, bo = some ⟨b, off, none⟩ ∧ b < w.heap.size ∧ ∀ i, i < m → w.cell? ⟨b, off + i, none⟩ = some (.int .i64 ((dg r i : Nat) : Int))) := h'.open
  have hlen : Hid (n = l.length) := h.1
  have hlen' : Hid (m = r.length) := h'.1
  clear h h'
  have hll : Hid (∀ d ∈ l, d < 10000) := hl
  have hrr : Hid (∀ d ∈ r, d < 10000) := hr
  have hnl := Lib.hid nl
  have hnr := Lib.hid nr
  clear hl hr nl nr
  have hbx : Below w.heap.size w ((w.alloc (.cells #[.slice ao n c] 38)).alloc (.cells #[.slice bo m d] 38)) := ((Below.refl _ _).alloc (Nat.le_refl _) _).alloc (by simp) _
  rcases Nat.lt_trichotomy n m with hc | hc | hc
  · have hres := Lib.hid (cmpN_lt (hnr.out.len_lt (B := 10000) (l := l) (by omega) hll.out (by have := hlen.out; have := hlen'.out; omega)))
    go_enter Tryz.func39, Tryz.ntmps39
    go_wp2
    go_ret
    exact ⟨by rw [hres.out]; rfl, hbx⟩
  · subst hc
    obtain ⟨hE1, hE2, hWs⟩ := ents2 w (.cells #[.slice ao n c] 38) (.cells #[.slice bo n d] 38)
    generalize hW : ((w.alloc (.cells #[.slice ao n c] 38)).alloc (.cells #[.slice bo n d] 38)) = W at hbx hE1 hE2 hWs
    have HWs := Lib.hid hWs; clear hWs
    have HW := Lib.hid hW; clear hW
    go_enter Tryz.func39, Tryz.ntmps39
    go_wp2
    rw [HW.out]
    go_loopw [5] (fun i wr => ∃ k : Nat, k ≤ n ∧ i = .int .i64 ((k : Int) - 1) ∧ Hid (∀ j, k ≤ j → j < n → dg l j = dg r j) ∧ Below (w.heap.size + 2) W wr) (fun i _ => (intOf i + 1).toNat)
    case atStart => exact ⟨n, Nat.le_refl _, rfl, by unfold Hid; intro j a b; omega, Below.refl _ _⟩
    case round =>
      obtain ⟨k, hk, rfl, heq, hbl⟩ := hrel
      by_cases hlt : 0 < k
      · obtain ⟨j, rfl⟩ : ∃ j, k = j + 1 := ⟨k - 1, by omega⟩
        obtain ⟨b, off, rfl, hbw0, hcell⟩ := hop.out (by omega)
        obtain ⟨b', off', rfl, hbw0', hcell'⟩ := hop'.out (by omega)
        have hA := ent_cell (ent_below hbl (by omega) hE1) 0
        have hB := ent_cell (ent_below hbl (by omega) hE2) 0
        have hck : wr.cell? ⟨b, off + j, none⟩ = some (.int .i64 ((dg l j : Nat) : Int)) := ((hbl.cell (p := ⟨b, off + j, none⟩) (by simp; omega)).trans (hbx.cell (p := ⟨b, off + j, none⟩) hbw0)).trans (hcell j (by omega))
        have hck' : wr.cell? ⟨b', off' + j, none⟩ = some (.int .i64 ((dg r j : Nat) : Int)) := ((hbl.cell (p := ⟨b', off' + j, none⟩) (by simp; omega)).trans (hbx.cell (p := ⟨b', off' + j, none⟩) hbw0')).trans (hcell' j (by omega))
        clear hcell hcell'
        have hj1 : (0 : Int) ≤ (j : Int) := by omega
        have hj2 : (j : Int) < (n : Int) := by omega
        by_cases hxy : dg l j = dg r j
        · rw [hxy] at hck
          have heq' : Hid (∀ i, j ≤ i → i < n → dg l i = dg r i) := fun i a b => by
            by_cases hij : i = j
            · rw [hij]; exact hxy
            · exact heq.out i (by omega) b
          clear hxy
          have hxb : dg r j < 10000 := dg_lt hrr.out (by omega) j
          generalize dg r j = x at *
          go_wp2
          go_quiet (fail)
          go_wp2
          go_quiet (fail)
          go_wp2
          go_roundw
          case rel => first | exact ⟨j, by omega, rfl, heq', below_drewN hbl _⟩ | exact ⟨j, by omega, rfl, heq', below_drewN (below_drewN hbl _) _⟩
          case measure => simp [intOf]
        · rcases Nat.lt_or_ge (dg l j) (dg r j) with hlt2 | hge2
          · have hres := Lib.hid (cmpN_lt (val_lt_at (B := 10000) (l := l) (m := r) (i := j) (by have := hlen.out; have := hlen'.out; omega) (by have := hlen.out; omega) hll.out hlt2 (fun i a b => heq.out i (by omega) (by have := hlen.out; omega))))
            clear hxy
            generalize dg r j = y at *
            generalize dg l j = x at *
            have hxy3 : (x : Int) < (y : Int) := by omega
            go_wp2
            go_quiet (fail)
            go_wp2
            go_ret
            exact ⟨by rw [hres.out]; rfl, below_drewN (hbx.trans (hbl.mono (by omega))) _⟩
          · have hres := Lib.hid (cmpN_gt (val_lt_at (B := 10000) (l := r) (m := l) (i := j) (by have := hlen.out; have := hlen'.out; omega) (by have := hlen'.out; omega) hrr.out (by omega) (fun i a b => (heq.out i (by omega) (by have := hlen'.out; omega)).symm)))
            have hxy3 : dg r j < dg l j := by omega
            clear hxy hge2
            generalize dg r j = y at *
            generalize dg l j = x at *
            have hxy4 : ¬ (x : Int) < (y : Int) := by omega
            have hxy5 : (y : Int) < (x : Int) := by omega
            go_wp2
            go_quiet (fail)
            go_wp2
            go_quiet (fail)
            go_wp2
            go_ret
            exact ⟨by rw [hres.out]; rfl, below_drewN (below_drewN (hbx.trans (hbl.mono (by omega))) _) _⟩
      · obtain rfl : k = 0 := by omega
        have hres : l = r := eq_of_digits (by have := hlen.out; have := hlen'.out; omega) (fun i a => heq.out i (by omega) (by have := hlen.out; omega))
        have hres := Lib.hid hres
        go_wp2
        go_ret
        exact ⟨by rw [hres.out, cmpN_eq]; rfl, hbx.trans (hbl.mono (by omega))⟩
  · have hres := Lib.hid (cmpN_gt (hnl.out.len_lt (B := 10000) (l := r) (by omega) hrr.out (by have := hlen.out; have := hlen'.out; omega)))
    go_enter Tryz.func39, Tryz.ntmps39
    go_wp2
    go_ret
    exact ⟨by rw [hres.out]; rfl, hbx⟩

/-- Which is the greater. -/
theorem rcmp_spec {w : World} {s t : Sl} {x y : Nat} (h : RefS w s x) (h' : RefS w t y) (hn : s.n ≤ 1000000000000) (hm : t.n ≤ 1000000000000) :
    Calls Tryz.prog 39 #[.agg #[.slice s.ao s.n s.c], .agg #[.slice t.ao t.n t.c]] w fun e w' =>
      e = .returned (.int .i64 (cmpN x y)) ∧ Below w.heap.size w w' := by
  obtain ⟨l, h1, h2, h3, h4⟩ := h
  obtain ⟨r, g1, g2, g3, g4⟩ := h'
  subst h4
  subst g4
  exact rcmp_walk s.ao t.ao s.n t.n s.c t.c l r w h1 g1 h2 g2 hn hm h3 g3

end Go.Proofs.YtaafmafdnnjmdaaGreat

namespace Go.Proofs.YtaafmafdnnjmdaaGreat
open Go.RowKit

theorem norm_snoc {o : List Nat} {d : Nat} (h : d ≠ 0) : Norm (o ++ [d]) := by unfold Norm; simpa using h
theorem norm_of_val {B : Nat} {o : List Nat} (hd : ∀ d ∈ o, d < B) (hv : B ^ (o.length - 1) ≤ val B o) (hl : 0 < o.length) : Norm o := by
  obtain ⟨m, d, rfl⟩ : ∃ m d, o = m ++ [d] := ⟨o.dropLast, o.getLast (by rintro rfl; simp at hl), (List.dropLast_concat_getLast _).symm⟩
  intro h
  have hd0 : d = 0 := by simpa using h
  subst hd0
  rw [val_snoc] at hv
  have := val_lt B m (fun x hx => hd x (by simp [hx]))
  simp at hv
  omega

def RLessRel (w : World) (n : Nat) (l r : List Nat) (W : World) (dv cy iv : Value) (wr : World) : Prop := ∃ (k : Nat) (o : List Nat) (q : Nat), k ≤ n ∧ iv = .int .i64 k ∧ cy = .int .i64 q ∧ q ≤ 1 ∧ Own wr (w.heap.size + 3) 3 .i64 dv o ∧ o.length = k ∧ (∀ d ∈ o, d < 10000) ∧ val 10000 (l.take k) + 10000 ^ k * q = val 10000 o + val 10000 (r.take k) ∧ Below (w.heap.size + 3) W wr

set_option maxHeartbeats 1600000 in
theorem rless_walk (ao bo : Option Addr) (n m c d : Nat) (l r : List Nat) (w : World) (h : IntsAt w 3 .i64 ⟨ao, n, c⟩ l) (h' : IntsAt w 3 .i64 ⟨bo, m, d⟩ r) (hl : ∀ d ∈ l, d < 10000) (hr : ∀ d ∈ r, d < 10000) (hn : n ≤ 1000000000000) (hmn : m ≤ n) (hv : val 10000 r ≤ val 10000 l) :
    Calls Tryz.prog 117 #[.agg #[.slice ao n c], .agg #[.slice bo m d]] w fun e w' =>
      ∃ (s : Sl), e = .returned (.agg #[.slice s.ao s.n s.c]) ∧ RefS w' s (val 10000 l - val 10000 r) ∧ s.n ≤ n ∧ Below w.heap.size w w' := by
  have hop : Hid (0 < n → ∃ b off, ao = some ⟨b, off, none⟩ ∧ b < w.heap.size ∧ ∀ i, i < n → w.cell? ⟨b, off + i, none⟩ = some (.int .i64 ((dg l i : Nat) : Int))) := h.open
  have hop' : Hid (0 < m → ∃ b off, bo = some ⟨b, off, none⟩ ∧ b < w.heap.size ∧ ∀ i, i < m → w.cell? ⟨b, off + i, none⟩ = some (.int .i64 ((dg r i : Nat) : Int))) := h'.open
  have hlen : Hid (n = l.length) := h.1
  have hlen' : Hid (m = r.length) := h'.1
  clear h h'
  have hll : Hid (∀ d ∈ l, d < 10000) := hl
  have hrr : Hid (∀ d ∈ r, d < 10000) := hr
  clear hl hr
  have hvv := Lib.hid hv; clear hv
  obtain ⟨hE1, hE2, hE3, hz⟩ := ents3 w (.cells #[.slice ao n c] 38) (.cells #[.slice bo m d] 38) (.cells #[.slice none 0 0] 38)
  have hbw : Below w.heap.size w (((w.alloc (.cells #[.slice ao n c] 38)).alloc (.cells #[.slice bo m d] 38)).alloc (.cells #[.slice none 0 0] 38)) := (((Below.refl _ _).alloc (Nat.le_refl _) _).alloc (by simp) _).alloc (by simp; omega) _
  have hWs : w.heap.size + 3 ≤ (((w.alloc (.cells #[.slice ao n c] 38)).alloc (.cells #[.slice bo m d] 38)).alloc (.cells #[.slice none 0 0] 38)).heap.size := Nat.le_of_eq hz.symm
  clear hz
  generalize hW : (((w.alloc (.cells #[.slice ao n c] 38)).alloc (.cells #[.slice bo m d] 38)).alloc (.cells #[.slice none 0 0] 38)) = W at hE1 hE2 hE3 hbw hWs
  have HW := Lib.hid hW; clear hW
  have hinit : RLessRel w n l r W (.slice none 0 0) (.int .i64 0) (.int .i64 0) W := ⟨0, [], 0, Nat.zero_le _, rfl, rfl, by omega, Own.nil _ _ _ _, rfl, by simp, by simp [val], Below.refl _ _⟩
  go_enter Tryz.func117, Tryz.ntmps117
  go_wp2
  rw [HW.out]
  go_loopw [5, 6, 7] (fun dv cy iv wr => RLessRel w n l r W dv cy iv wr) (fun _ _ iv _ => n - (intOf iv).toNat)
  case atStart => exact hinit
  case round =>
    clear hinit
    obtain ⟨k, o, q, hk, rfl, rfl, hq, hown, hol, hod, hval, hbl⟩ := hrel
    have HOL := Lib.hid hol; clear hol
    have HOD := Lib.hid hod; clear hod
    have HV := Lib.hid hval; clear hval
    have hws : w.heap.size + 3 ≤ wr.heap.size := Nat.le_trans hWs hbl.size
    have hA := ent_cell (ent_below hbl (by omega) hE1) 0
    have hB := ent_cell (ent_below hbl (by omega) hE2) 0
    have hl1 : (o.length + 1) * 8 ≤ 140737488355328 := by have := HOL.out; omega
    have hl2 : o.length + 1 ≤ maxLen := by have := HOL.out; unfold maxLen; omega
    by_cases hlt : k < n
    · obtain ⟨b, off, rfl, hbw0, hcell⟩ := hop.out (by omega)
      have hck : wr.cell? ⟨b, off + k, none⟩ = some (.int .i64 ((dg l k : Nat) : Int)) := ((hbl.cell (p := ⟨b, off + k, none⟩) (by simp; omega)).trans (hbw.cell (p := ⟨b, off + k, none⟩) hbw0)).trans (hcell k hlt)
      clear hcell
      have hx : dg l k < 10000 := dg_lt hll.out (by omega) k
      by_cases hltm : k < m
      · obtain ⟨b', off', rfl, hbw0', hcell'⟩ := hop'.out (by omega)
        have hck' : wr.cell? ⟨b', off' + k, none⟩ = some (.int .i64 ((dg r k : Nat) : Int)) := ((hbl.cell (p := ⟨b', off' + k, none⟩) (by simp; omega)).trans (hbw.cell (p := ⟨b', off' + k, none⟩) hbw0')).trans (hcell' k hltm)
        clear hcell'
        have hy : dg r k < 10000 := dg_lt hrr.out (by omega) k
        by_cases hneg : dg l k < q + dg r k
        · have hstep := Lib.hid (less_step2 (B := 10000) (x := dg l k) (y := dg r k) (r := r) HOL.out rfl rfl (by omega) HV.out)
          generalize dg l k = x at *
          generalize dg r k = y at *
          go_wp2_with (at_builtin; refine wpList_push rowInt _ rfl _ _ rfl (w.heap.size + 3) u5 o _ (x + 10000 - (q + y)) rfl rfl hown (by first | rfl | omega) hl1 hl2 hws ?_; intro v' w' hown' hb')
          go_wp2
          go_roundw
          case rel => exact ⟨k + 1, o ++ [x + 10000 - (q + y)], 1, by omega, by go_num, by first | rfl | go_num, by omega, hown', by simp [HOL.out], snoc_lt HOD.out (by omega), hstep.out, hbl.trans hb'⟩
          case measure => simp [intOf]; omega
        · have hstep := Lib.hid (less_step1 (B := 10000) (x := dg l k) (y := dg r k) (r := r) HOL.out rfl rfl (by omega) HV.out)
          generalize dg l k = x at *
          generalize dg r k = y at *
          go_wp2_with (at_builtin; refine wpList_push rowInt _ rfl _ _ rfl (w.heap.size + 3) u5 o _ (x - (q + y)) rfl rfl hown (by first | rfl | omega) hl1 hl2 hws ?_; intro v' w' hown' hb')
          go_wp2
          go_roundw
          case rel => exact ⟨k + 1, o ++ [x - (q + y)], 0, by omega, by go_num, by first | rfl | go_num, by omega, hown', by simp [HOL.out], snoc_lt HOD.out (by omega), hstep.out, hbl.trans hb'⟩
          case measure => simp [intOf]; omega
      · by_cases hneg : dg l k < q
        · have hstep := Lib.hid (less_step2 (B := 10000) (x := dg l k) (y := 0) (r := r) HOL.out rfl (dg_big (by have := hlen'.out; omega)) (by omega) HV.out)
          generalize dg l k = x at *
          go_wp2_with (at_builtin; refine wpList_push rowInt _ rfl _ _ rfl (w.heap.size + 3) u5 o _ (x + 10000 - (q + 0)) rfl rfl hown (by first | rfl | omega) hl1 hl2 hws ?_; intro v' w' hown' hb')
          go_wp2
          go_roundw
          case rel => exact ⟨k + 1, o ++ [x + 10000 - (q + 0)], 1, by omega, by go_num, by first | rfl | go_num, by omega, hown', by simp [HOL.out], snoc_lt HOD.out (by omega), hstep.out, hbl.trans hb'⟩
          case measure => simp [intOf]; omega
        · have hstep := Lib.hid (less_step1 (B := 10000) (x := dg l k) (y := 0) (r := r) HOL.out rfl (dg_big (by have := hlen'.out; omega)) (by omega) HV.out)
          generalize dg l k = x at *
          go_wp2_with (at_builtin; refine wpList_push rowInt _ rfl _ _ rfl (w.heap.size + 3) u5 o _ (x - (q + 0)) rfl rfl hown (by first | rfl | omega) hl1 hl2 hws ?_; intro v' w' hown' hb')
          go_wp2
          go_roundw
          case rel => exact ⟨k + 1, o ++ [x - (q + 0)], 0, by omega, by go_num, by first | rfl | go_num, by omega, hown', by simp [HOL.out], snoc_lt HOD.out (by omega), hstep.out, hbl.trans hb'⟩
          case measure => simp [intOf]; omega
    · have hkn : Hid (k = n) := by unfold Hid; omega
      obtain ⟨s, rfl, hs⟩ := hown.ints
      have hE3' := ent_below hbl (by omega) hE3
      have hsl := Lib.hid hs.1
      go_wp2_with (go_at_call 103; refine (rcut_spec hs HOD.out).mono ?_; rintro e w2 ⟨t, rfl, ht, htn, hb2⟩; have hF := ent_up hb2 hE3'; have hR := ent_cell hF 0; have hRf := ent_frozen hF 0)
      refine bodyPost_ret (v := .agg #[.slice t.ao t.n t.c]) (by simp [results, Tryz.results117, go_sem, hR]) rfl ⟨t, rfl, ?_, ?_, ?_⟩
      · have e : val 10000 o = val 10000 l - val 10000 r := by
          have h1 := HV.out
          rw [val_take_all _ l _ (by have := hlen.out; have := hkn.out; omega), val_take_all _ r _ (by have := hlen'.out; have := hkn.out; omega)] at h1
          exact less_end HOD.out HOL.out hvv.out h1
        rw [← e]
        exact ht.kp ((Kp.refl _).setCell (a := ⟨w.heap.size + 1 + 1, 0, none⟩) hF (by decide) _)
      · have := hsl.out; have := HOL.out; have := hkn.out; omega
      · exact ((hbw.trans (hbl.mono (by omega))).trans (hb2.mono (by omega))).setCell (by simp; omega) _

/-- The difference. -/
theorem rless_spec {w : World} {s t : Sl} {x y : Nat} (h : RefS w s x) (h' : RefS w t y) (hn : s.n ≤ 1000000000000) (hxy : y ≤ x) :
    Calls Tryz.prog 117 #[.agg #[.slice s.ao s.n s.c], .agg #[.slice t.ao t.n t.c]] w fun e w' =>
      ∃ u : Sl, e = .returned (.agg #[.slice u.ao u.n u.c]) ∧ RefS w' u (x - y) ∧ u.n ≤ s.n ∧ Below w.heap.size w w' := by
  have hts := h'.n_le h hxy
  obtain ⟨l, h1, h2, h3, h4⟩ := h
  obtain ⟨r, g1, g2, g3, g4⟩ := h'
  subst h4
  subst g4
  exact rless_walk s.ao t.ao s.n t.n s.c t.c l r w h1 g1 h2 g2 hn hts hxy

def RAddRel (w : World) (n m : Nat) (l r : List Nat) (W : World) (dv cy iv : Value) (wr : World) : Prop := ∃ (k : Nat) (o : List Nat) (q : Nat), k ≤ max n m + 1 ∧ iv = .int .i64 k ∧ cy = .int .i64 q ∧ q ≤ 1 ∧ Own wr (w.heap.size + 3) 3 .i64 dv o ∧ o.length = k ∧ (∀ d ∈ o, d < 10000) ∧ val 10000 o + 10000 ^ k * q = val 10000 (l.take k) + val 10000 (r.take k) ∧ (max n m < k → q = 0 ∧ Norm o) ∧ Below (w.heap.size + 3) W wr

set_option maxHeartbeats 1600000 in
theorem radd_walk (ao bo : Option Addr) (n m c d : Nat) (l r : List Nat) (w : World) (h : IntsAt w 3 .i64 ⟨ao, n, c⟩ l) (h' : IntsAt w 3 .i64 ⟨bo, m, d⟩ r) (hl : ∀ d ∈ l, d < 10000) (hr : ∀ d ∈ r, d < 10000) (hn : n ≤ 1000000000000) (hm : m ≤ 1000000000000) (nl : Norm l) (nr : Norm r) :
    Calls Tryz.prog 92 #[.agg #[.slice ao n c], .agg #[.slice bo m d]] w fun e w' =>
      ∃ (s : Sl), e = .returned (.agg #[.slice s.ao s.n s.c]) ∧ RefS w' s (val 10000 l + val 10000 r) ∧ s.n ≤ max n m + 1 ∧ Below w.heap.size w w' := by
  have hop : Hid (0 < n → ∃ b off, ao = some ⟨b, off, none⟩ ∧ b < w.heap.size ∧ ∀ i, i < n → w.cell? ⟨b, off + i, none⟩ = some (.int .i64 ((dg l i : Nat) : Int))) := h.open
  have hop' : Hid (0 < m → ∃ b off, bo = some ⟨b, off, none⟩ ∧ b < w.heap.size ∧ ∀ i, i < m → w.cell? ⟨b, off + i, none⟩ = some (.int .i64 ((dg r i : Nat) : Int))) := h'.open
  have hlen : Hid (n = l.length) := h.1
  have hlen' : Hid (m = r.length) := h'.1
  clear h h'
  have hll : Hid (∀ d ∈ l, d < 10000) := hl
  have hrr : Hid (∀ d ∈ r, d < 10000) := hr
  clear hl hr
  have hnl := Lib.hid nl; clear nl
  have hnr := Lib.hid nr; clear nr
  obtain ⟨hE1, hE2, hE3, hz⟩ := ents3 w (.cells #[.slice ao n c] 38) (.cells #[.slice bo m d] 38) (.cells #[.slice none 0 0] 38)
  have hbw : Below w.heap.size w (((w.alloc (.cells #[.slice ao n c] 38)).alloc (.cells #[.slice bo m d] 38)).alloc (.cells #[.slice none 0 0] 38)) := (((Below.refl _ _).alloc (Nat.le_refl _) _).alloc (by simp) _).alloc (by simp; omega) _
  have hWs : w.heap.size + 3 ≤ (((w.alloc (.cells #[.slice ao n c] 38)).alloc (.cells #[.slice bo m d] 38)).alloc (.cells #[.slice none 0 0] 38)).heap.size := Nat.le_of_eq hz.symm
  clear hz
  generalize hW : (((w.alloc (.cells #[.slice ao n c] 38)).alloc (.cells #[.slice bo m d] 38)).alloc (.cells #[.slice none 0 0] 38)) = W at hE1 hE2 hE3 hbw hWs
  have HW := Lib.hid hW; clear hW
  have hinit : RAddRel w n m l r W (.slice none 0 0) (.int .i64 0) (.int .i64 0) W := ⟨0, [], 0, Nat.zero_le _, rfl, rfl, by omega, Own.nil _ _ _ _, rfl, by simp, by simp [val], fun h => absurd h (by omega), Below.refl _ _⟩
  go_enter Tryz.func92, Tryz.ntmps92
  go_wp2
  rw [HW.out]
  go_loopw [5, 6, 7] (fun dv cy iv wr => RAddRel w n m l r W dv cy iv wr) (fun _ _ iv _ => max n m + 1 - (intOf iv).toNat)
  case atStart => exact hinit
  case round =>
    clear hinit
    obtain ⟨k, o, q, hk, rfl, rfl, hq, hown, hol, hod, hval, hfin, hbl⟩ := hrel
    have HOL := Lib.hid hol; clear hol
    have HOD := Lib.hid hod; clear hod
    have HV := Lib.hid hval; clear hval
    have hws : w.heap.size + 3 ≤ wr.heap.size := Nat.le_trans hWs hbl.size
    have hA := ent_cell (ent_below hbl (by omega) hE1) 0
    have hB := ent_cell (ent_below hbl (by omega) hE2) 0
    have hl1 : (o.length + 1) * 8 ≤ 140737488355328 := by have := HOL.out; omega
    have hl2 : o.length + 1 ≤ maxLen := by have := HOL.out; unfold maxLen; omega
    have HF := Lib.hid hfin; clear hfin
    have hkN : Hid (max n m < k → q = 0) := fun h => (HF.out h).1
    by_cases hlt : k < n
    · obtain ⟨b, off, rfl, hbw0, hcell⟩ := hop.out (by omega)
      have hck : wr.cell? ⟨b, off + k, none⟩ = some (.int .i64 ((dg l k : Nat) : Int)) := ((hbl.cell (p := ⟨b, off + k, none⟩) (by simp; omega)).trans (hbw.cell (p := ⟨b, off + k, none⟩) hbw0)).trans (hcell k hlt)
      clear hcell
      have hx : dg l k < 10000 := dg_lt hll.out (by omega) k
      by_cases hltm : k < m
      · obtain ⟨b', off', rfl, hbw0', hcell'⟩ := hop'.out (by omega)
        have hck' : wr.cell? ⟨b', off' + k, none⟩ = some (.int .i64 ((dg r k : Nat) : Int)) := ((hbl.cell (p := ⟨b', off' + k, none⟩) (by simp; omega)).trans (hbw.cell (p := ⟨b', off' + k, none⟩) hbw0')).trans (hcell' k hltm)
        clear hcell'
        have hy : dg r k < 10000 := dg_lt hrr.out (by omega) k
        have hstep := Lib.hid (add_step (B := 10000) (l := l) (r := r) HOL.out (rfl : dg l k = dg l k) (rfl : dg r k = dg r k) rfl HV.out)
        generalize dg l k = x at *
        generalize dg r k = y at *
        go_wp2_with (at_builtin; refine wpList_push rowInt _ rfl _ _ rfl (w.heap.size + 3) u5 o _ ((q + x + y) % 10000) rfl rfl hown (by first | rfl | omega) hl1 hl2 hws ?_; intro v' w' hown' hb')
        go_wp2
        go_roundw
        case rel => exact ⟨k + 1, o ++ [(q + x + y) % 10000], (q + x + y) / 10000, by omega, by go_num, by first | rfl | go_num, by omega, hown', by simp [HOL.out], snoc_lt HOD.out (by omega), hstep.out, fun h => absurd h (by omega), hbl.trans hb'⟩
        case measure => simp [intOf]; omega
      · have hstep := Lib.hid (add_step (B := 10000) (l := l) (r := r) (y := 0) HOL.out (rfl : dg l k = dg l k) (dg_big (by have := hlen'.out; omega)) rfl HV.out)
        generalize dg l k = x at *
        go_wp2_with (at_builtin; refine wpList_push rowInt _ rfl _ _ rfl (w.heap.size + 3) u5 o _ ((q + x + 0) % 10000) rfl rfl hown (by first | rfl | omega) hl1 hl2 hws ?_; intro v' w' hown' hb')
        go_wp2
        go_roundw
        case rel => exact ⟨k + 1, o ++ [(q + x + 0) % 10000], (q + x + 0) / 10000, by omega, by go_num, by first | rfl | go_num, by omega, hown', by simp [HOL.out], snoc_lt HOD.out (by omega), hstep.out, fun h => absurd h (by omega), hbl.trans hb'⟩
        case measure => simp [intOf]; omega
    · by_cases hltm : k < m
      · obtain ⟨b', off', rfl, hbw0', hcell'⟩ := hop'.out (by omega)
        have hck' : wr.cell? ⟨b', off' + k, none⟩ = some (.int .i64 ((dg r k : Nat) : Int)) := ((hbl.cell (p := ⟨b', off' + k, none⟩) (by simp; omega)).trans (hbw.cell (p := ⟨b', off' + k, none⟩) hbw0')).trans (hcell' k hltm)
        clear hcell'
        have hy : dg r k < 10000 := dg_lt hrr.out (by omega) k
        have hstep := Lib.hid (add_step (B := 10000) (l := l) (r := r) (x := 0) HOL.out (dg_big (by have := hlen.out; omega)) (rfl : dg r k = dg r k) rfl HV.out)
        generalize dg r k = y at *
        go_wp2_with (at_builtin; refine wpList_push rowInt _ rfl _ _ rfl (w.heap.size + 3) u5 o _ ((q + 0 + y) % 10000) rfl rfl hown (by first | rfl | omega) hl1 hl2 hws ?_; intro v' w' hown' hb')
        go_wp2
        go_roundw
        case rel => exact ⟨k + 1, o ++ [(q + 0 + y) % 10000], (q + 0 + y) / 10000, by omega, by go_num, by first | rfl | go_num, by omega, hown', by simp [HOL.out], snoc_lt HOD.out (by omega), hstep.out, fun h => absurd h (by omega), hbl.trans hb'⟩
        case measure => simp [intOf]; omega
      · by_cases hq1 : 0 < q
        · have hkN' : k = max n m := by
            have := hkN.out
            omega
          have HkN := Lib.hid hkN'; clear hkN'
          have hkle : k ≤ max n m := by have := HkN.out; omega
          have hstep := Lib.hid (add_step (B := 10000) (l := l) (r := r) (x := 0) (y := 0) HOL.out (dg_big (by have := hlen.out; omega)) (dg_big (by have := hlen'.out; omega)) rfl HV.out)
          go_wp2_with (at_builtin; refine wpList_push rowInt _ rfl _ _ rfl (w.heap.size + 3) u5 o _ ((q + 0 + 0) % 10000) rfl rfl hown (by first | rfl | omega) hl1 hl2 hws ?_; intro v' w' hown' hb')
          go_wp2
          go_roundw
          case rel => exact ⟨k + 1, o ++ [(q + 0 + 0) % 10000], (q + 0 + 0) / 10000, by omega, by go_num, by first | rfl | go_num, by omega, hown', by simp [HOL.out], snoc_lt HOD.out (by omega), hstep.out, fun _ => ⟨by omega, norm_snoc (by omega)⟩, hbl.trans hb'⟩
          case measure => simp [intOf]; omega
        · have hq0 : q = 0 := by omega
          obtain ⟨s, rfl, hs⟩ := hown.ints
          have hE3' := ent_below hbl (by omega) hE3
          have hsl := Lib.hid hs.1
          have hR := ent_cell hE3' 0
          have hRf := ent_frozen hE3' 0
          have hval : val 10000 o = val 10000 l + val 10000 r := by
            have h1 := HV.out
            rw [hq0, val_take_all _ l _ (by have := hlen.out; omega), val_take_all _ r _ (by have := hlen'.out; omega)] at h1
            simpa using h1
          have hnorm : Norm o := by
            by_cases hN : max n m < k
            · exact (HF.out hN).2
            · by_cases hk0 : k = 0
              · have : o = [] := List.eq_nil_of_length_eq_zero (by rw [HOL.out]; exact hk0)
                rw [this]; exact norm_nil
              · refine norm_of_val HOD.out ?_ (by rw [HOL.out]; omega)
                rw [HOL.out, hval]
                by_cases hnm : n = k
                · have := hnl.out.pos 10000 (l := l) (by intro e; have := hlen.out; rw [e] at this; simp at this; omega)
                  rw [← hlen.out, hnm] at this
                  omega
                · have hmk : m = k := by omega
                  have := hnr.out.pos 10000 (l := r) (by intro e; have := hlen'.out; rw [e] at this; simp at this; omega)
                  rw [← hlen'.out, hmk] at this
                  omega
          have HVAL := Lib.hid hval; clear hval
          have hq1I : decide ((0 : Int) < (q : Int)) = false := by simp; omega
          clear hq0
          go_wp2
          refine bodyPost_ret (v := .agg #[.slice s.ao s.n s.c]) (by simp [results, Tryz.results92, go_sem, hR]) rfl ⟨s, rfl, ⟨o, hs.kp (.inr (.inl rfl)) ((Kp.refl _).setCell (a := ⟨w.heap.size + 1 + 1, 0, none⟩) hE3' (by decide) _), HOD.out, hnorm, HVAL.out⟩, ?_, ?_⟩
          · have := hsl.out; have := HOL.out; omega
          · exact (hbw.trans (hbl.mono (by omega))).setCell (by simp; omega) _

/-- The sum. -/
theorem radd_spec {w : World} {s t : Sl} {x y : Nat} (h : RefS w s x) (h' : RefS w t y) (hn : s.n ≤ 1000000000000) (hm : t.n ≤ 1000000000000) :
    Calls Tryz.prog 92 #[.agg #[.slice s.ao s.n s.c], .agg #[.slice t.ao t.n t.c]] w fun e w' =>
      ∃ u : Sl, e = .returned (.agg #[.slice u.ao u.n u.c]) ∧ RefS w' u (x + y) ∧ u.n ≤ max s.n t.n + 1 ∧ Below w.heap.size w w' := by
  obtain ⟨l, h1, h2, h3, h4⟩ := h
  obtain ⟨r, g1, g2, g3, g4⟩ := h'
  subst h4
  subst g4
  exact radd_walk s.ao t.ao s.n t.n s.c t.c l r w h1 g1 h2 g2 hn hm h3 g3

end Go.Proofs.YtaafmafdnnjmdaaGreat

namespace Go.Proofs.YtaafmafdnnjmdaaGreat
open Go.RowKit

theorem dmul_lim (x y : Nat) (hx : x < 10000) (hy : y < 10000) : 0 ≤ (x : Int) * y ∧ (x : Int) * y ≤ 99980001 := by
  have h : x * y ≤ 9999 * 9999 := Nat.mul_le_mul (by omega) (by omega)
  rw [← Int.natCast_mul]
  omega

/-- A carry, one place up. -/
theorem carry_step {B k q z : Nat} {p : List Nat} (hk : k < p.length) (hz : dg p k = z) : val B (p.set k ((q + z) % B)) + B ^ (k + 1) * ((q + z) / B) = val B p + B ^ k * q := by
  have h1 := val_set B p k ((q + z) % B) hk
  rw [hz] at h1
  have h2 := Nat.div_add_mod (q + z) B
  generalize (q + z) / B = u at *
  generalize (q + z) % B = v at *
  rw [Nat.pow_succ]
  have h3 : B ^ k * (B * u + v) = B ^ k * (q + z) := by rw [h2]
  have h4 : val B (p.set k v) + B ^ k * z + B ^ k * (B * u) = val B p + B ^ k * (q + z) := by rw [← h3, h1]; grind
  grind

theorem rmul_bound {n m i : Nat} {l r : List Nat} (hn : n = l.length) (hm : m = r.length) (hl : ∀ d ∈ l, d < 10000) (hr : ∀ d ∈ r, d < 10000) (hi : i < n) : val 10000 (l.take (i + 1)) * val 10000 r < 10000 ^ (n + m) := by
  have h1 := val_lt 10000 (l.take (i + 1)) (fun d hd => hl d (List.mem_of_mem_take hd))
  have h2 := val_lt 10000 r hr
  have h3 : (l.take (i + 1)).length ≤ n := by simp; omega
  have h4 : 10000 ^ (l.take (i + 1)).length ≤ 10000 ^ n := Nat.pow_le_pow_right (by omega) h3
  rw [← hm] at h2
  rw [Nat.pow_add]
  have h5 : val 10000 (l.take (i + 1)) * val 10000 r ≤ val 10000 (l.take (i + 1)) * 10000 ^ m := Nat.mul_le_mul_left _ (Nat.le_of_lt h2)
  have h6 : val 10000 (l.take (i + 1)) * 10000 ^ m < 10000 ^ n * 10000 ^ m := Nat.mul_lt_mul_of_pos_right (by omega) (Nat.pow_pos (by omega))
  omega

/-- The rows so far. -/
def RMulRel (w : World) (g n m : Nat) (l r : List Nat) (W : World) (iv : Value) (wr : World) : Prop := ∃ (i : Nat) (p : List Nat), i ≤ n ∧ iv = .int .i64 i ∧ Own wr (w.heap.size + 3) 3 .i64 (.slice (some ⟨g, 0, none⟩) (n + m + 1) (n + m + 1)) p ∧
  p.length = n + m + 1 ∧ (∀ d ∈ p, d < 10000) ∧ val 10000 p = val 10000 (l.take i) * val 10000 r ∧ Below (w.heap.size + 3) W wr
/-- One row. -/
def RMulIn (w : World) (g n m i x : Nat) (l r : List Nat) (W : World) (cy kv : Value) (wr : World) : Prop := ∃ (k q : Nat) (p : List Nat), k ≤ m ∧ kv = .int .i64 k ∧ cy = .int .i64 q ∧ q < 10000 ∧ Own wr (w.heap.size + 3) 3 .i64 (.slice (some ⟨g, 0, none⟩) (n + m + 1) (n + m + 1)) p ∧
  p.length = n + m + 1 ∧ (∀ d ∈ p, d < 10000) ∧ val 10000 p + 10000 ^ (i + k) * q = val 10000 (l.take i) * val 10000 r + 10000 ^ i * x * val 10000 (r.take k) ∧ Below (w.heap.size + 3) W wr
/-- The carry behind a row. -/
def RMulCy (w : World) (g n m C : Nat) (W : World) (cy kv : Value) (wr : World) : Prop := ∃ (k q : Nat) (p : List Nat), k ≤ n + m ∧ kv = .int .i64 k ∧ cy = .int .i64 q ∧ q < 10000 ∧ Own wr (w.heap.size + 3) 3 .i64 (.slice (some ⟨g, 0, none⟩) (n + m + 1) (n + m + 1)) p ∧
  p.length = n + m + 1 ∧ (∀ d ∈ p, d < 10000) ∧ val 10000 p + 10000 ^ k * q = C ∧ Below (w.heap.size + 3) W wr

set_option maxHeartbeats 3200000 in
theorem rmul_walk (ao bo : Option Addr) (n m c d : Nat) (l r : List Nat) (w : World) (h : IntsAt w 3 .i64 ⟨ao, n, c⟩ l) (h' : IntsAt w 3 .i64 ⟨bo, m, d⟩ r) (hl : ∀ d ∈ l, d < 10000) (hr : ∀ d ∈ r, d < 10000) (hn : n ≤ 1000000000000) (hm : m ≤ 1000000000000) :
    Calls Tryz.prog 118 #[.agg #[.slice ao n c], .agg #[.slice bo m d]] w fun e w' =>
      ∃ (s : Sl), e = .returned (.agg #[.slice s.ao s.n s.c]) ∧ RefS w' s (val 10000 l * val 10000 r) ∧ Below w.heap.size w w' := by
  have hop : Hid (0 < n → ∃ b off, ao = some ⟨b, off, none⟩ ∧ b < w.heap.size ∧ ∀ i, i < n → w.cell? ⟨b, off + i, none⟩ = some (.int .i64 ((dg l i : Nat) : Int))) := h.open
  have hop' : Hid (0 < m → ∃ b off, bo = some ⟨b, off, none⟩ ∧ b < w.heap.size ∧ ∀ i, i < m → w.cell? ⟨b, off + i, none⟩ = some (.int .i64 ((dg r i : Nat) : Int))) := h'.open
  have hlen : Hid (n = l.length) := h.1
  have hlen' : Hid (m = r.length) := h'.1
  clear h h'
  have hll : Hid (∀ d ∈ l, d < 10000) := hl
  have hrr : Hid (∀ d ∈ r, d < 10000) := hr
  clear hl hr
  obtain ⟨hE1, hE2, hE3, hz⟩ := ents3 w (.cells #[.slice ao n c] 38) (.cells #[.slice bo m d] 38) (.cells #[.slice none 0 0] 38)
  have hbw : Below w.heap.size w (((w.alloc (.cells #[.slice ao n c] 38)).alloc (.cells #[.slice bo m d] 38)).alloc (.cells #[.slice none 0 0] 38)) := (((Below.refl _ _).alloc (Nat.le_refl _) _).alloc (by simp) _).alloc (by simp; omega) _
  go_enter Tryz.func118, Tryz.ntmps118
  go_wp2_with (at_make; refine wpList_mkfull rowInt _ rfl _ _ rfl (w.heap.size + 3) _ _ _ _ (n + m + 1) rfl rfl (by omega) (by omega) (by omega) (by unfold maxLen; omega) (by simp) ?_; intro w1 ho hb hsz)
  have hbw1 : Below w.heap.size w w1 := hbw.trans (hb.mono (by omega))
  have F1 := ent_below hb (by omega) hE1
  have F2 := ent_below hb (by omega) hE2
  have F3 := ent_below hb (by omega) hE3
  have hw1 : w.heap.size + 3 ≤ w1.heap.size := by have := hb.size; simp at this; omega
  clear hb hbw hz hE1 hE2 hE3
  replace ho : Own w1 (w.heap.size + 3) 3 .i64 (.slice (some ⟨w.heap.size + 1 + 1 + 1, 0, none⟩) (n + m + 1) (n + m + 1)) (List.replicate (n + m + 1) 0) := by simpa using ho
  rw [show w.heap.size + 1 + 1 + 1 = w.heap.size + 3 from rfl] at ho ⊢
  have hinit : RMulRel w (w.heap.size + 3) n m l r w1 (.int .i64 0) w1 := ⟨0, _, Nat.zero_le _, rfl, ho, by simp, by simp, by simp [val, val_replicate], Below.refl _ _⟩
  clear ho
  go_loopw [6] (fun iv wr => RMulRel w (w.heap.size + 3) n m l r w1 iv wr) (fun iv _ => n - (intOf iv).toNat)
  case atStart => exact hinit
  case round =>
    clear hinit
    obtain ⟨i, p, hi, rfl, hown, hol, hod, hval, hbl⟩ := hrel
    have HOL := Lib.hid hol; clear hol
    have HOD := Lib.hid hod; clear hod
    have HV := Lib.hid hval; clear hval
    have hA := ent_cell (ent_below hbl (by omega) F1) 0
    have hB := ent_cell (ent_below hbl (by omega) F2) 0
    by_cases hlt : i < n
    · obtain ⟨b, off, rfl, hbw0, hcell⟩ := hop.out (by omega)
      have hx : dg l i < 10000 := dg_lt hll.out (by omega) i
      have hcki : Hid (w.cell? ⟨b, off + i, none⟩ = some (.int .i64 ((dg l i : Nat) : Int))) := hcell i hlt
      clear hcell
      have HB := Lib.hid (rmul_bound hlen.out hlen'.out hll.out hrr.out hlt)
      have HT := Lib.hid (val_take_next 10000 l i)
      generalize dg l i = x at *
      have hin : RMulIn w (w.heap.size + 3) n m i x l r w1 (.int .i64 0) (.int .i64 0) wr := ⟨0, 0, p, Nat.zero_le _, rfl, rfl, by omega, hown, HOL.out, HOD.out, by simp [val]; exact HV.out, hbl⟩
      obtain ⟨wo, hwo⟩ : ∃ wo : World, wo = wr := ⟨_, rfl⟩
      subst hwo
      clear hown HOL HOD HV
      go_wp2
      go_loopw [7, 8] (fun cy kv wr => RMulIn w (w.heap.size + 3) n m i x l r w1 cy kv wr) (fun _ kv _ => m - (intOf kv).toNat)
      case atStart => exact hin
      case round =>
        clear hin hA hB hbl
        obtain ⟨k, q, p, hk, rfl, rfl, hq, hown, hol, hod, hval, hbl⟩ := hrel
        have hws := hbl.size
        have HOL := Lib.hid hol; clear hol
        have HOD := Lib.hid hod; clear hod
        have HV := Lib.hid hval; clear hval
        have hA := ent_cell (ent_below hbl (show w.heap.size < w.heap.size + 3 by omega) F1) 0
        have hB := ent_cell (ent_below hbl (show w.heap.size + 1 < w.heap.size + 3 by omega) F2) 0
        by_cases hlt2 : k < m
        · have hck : wr.cell? ⟨b, off + i, none⟩ = some (.int .i64 (x : Int)) := ((hbl.cell (p := ⟨b, off + i, none⟩) (by simp; omega)).trans (hbw1.cell (p := ⟨b, off + i, none⟩) hbw0)).trans hcki.out
          obtain ⟨b', off', rfl, hbw0', hcell'⟩ := hop'.out (by omega)
          have hck' : wr.cell? ⟨b', off' + k, none⟩ = some (.int .i64 ((dg r k : Nat) : Int)) := ((hbl.cell (p := ⟨b', off' + k, none⟩) (by simp; omega)).trans (hbw1.cell (p := ⟨b', off' + k, none⟩) hbw0')).trans (hcell' k hlt2)
          clear hcell'
          have hy : dg r k < 10000 := dg_lt hrr.out (by omega) k
          have hz : dg p (i + k) < 10000 := dg_lt HOD.out (by omega) (i + k)
          obtain ⟨hoc, hof, _, _⟩ := hown.slot (i + k) (by have := HOL.out; omega)
          have hstep := Lib.hid (mul_step (B := 10000) (by have := HOL.out; omega) rfl rfl HV.out)
          generalize dg r k = y at *
          generalize dg p (i + k) = z at *
          obtain ⟨hx0, hxm⟩ := dmul_lim x y hx hy
          have hu1 : (q + (x * y + z)) / 10000 < 10000 ∧ q + (x * y + z) < 100000000 := by
            have : x * y ≤ 9999 * 9999 := Nat.mul_le_mul (by omega) (by omega)
            omega
          obtain ⟨N, hN⟩ : ∃ N : Nat, N = q + (x * y + z) := ⟨_, rfl⟩
          rw [← hN] at hstep hu1
          have hNI : (q : Int) + z + (x : Int) * y = (N : Int) := by rw [hN]; push_cast; omega
          have HN := Lib.hid hN; clear hN
          have hu2 := hu1.2
          have hu3 := Lib.hid hu1.1
          clear hu1
          have hi0 : (0 : Int) ≤ (i : Int) := by omega
          have hi1 : (i : Int) < (n : Int) := by omega
          have hk0 : (0 : Int) ≤ (k : Int) := by omega
          have hk1 : (k : Int) < (m : Int) := by omega
          have hik0 : (0 : Int) ≤ (i : Int) + k := by omega
          have hik1 : (i : Int) + k < (n : Int) + m + 1 := by omega
          have hikn : ((i : Int) + k).toNat = i + k := by omega
          have hikw : IntKind.i64.wrap ((i : Int) + k) = (i : Int) + k := IntWalk.i64_in _ (by omega)
          go_upto_region 9 with fail
          go_quiet (fail)
          have hown2 : Own (wr.drewN nq) (w.heap.size + 3) 3 .i64 (.slice (some ⟨w.heap.size + 3, 0, none⟩) (n + m + 1) (n + m + 1)) p := hown
          have hbl2 := below_drewN hbl nq
          clear hoc hof hck hck' hA hB hbl hown
          generalize wr.drewN nq = wq at *
          obtain ⟨hoc, hof, _, _⟩ := hown2.slot (i + k) (by have := HOL.out; omega)
          have hst := hown2.store (i + k) (N % 10000)
          go_wp2
          go_roundw
          case rel => exact ⟨k + 1, N / 10000, _, by omega, by go_num, by go_num, hu3.out, hst.1, by rw [List.length_set]; exact HOL.out, set_lt HOD.out (Nat.mod_lt _ (by omega)), hstep.out, hbl2.trans hst.2⟩
          case measure => simp [intOf]; omega
        · have hkm : k = m := by omega
          have HC : Hid (val 10000 p + 10000 ^ (i + m) * q = val 10000 (l.take (i + 1)) * val 10000 r) := by
            have h1 := HV.out
            rw [hkm, val_take_all _ r _ (by have := hlen'.out; omega)] at h1
            show _ = _
            rw [h1, HT.out]
            grind
          have hkI : decide ((k : Int) < (m : Int)) = false := by simp; omega
          clear hkm HV hcki
          generalize hC : val 10000 (l.take (i + 1)) * val 10000 r = C at *
          have HCC := Lib.hid hC; clear hC
          have hcy : RMulCy w (w.heap.size + 3) n m C w1 (.int .i64 q) (.int .i64 ((i : Int) + m)) wr := ⟨i + m, q, p, by omega, by simp, rfl, hq, hown, HOL.out, HOD.out, HC.out, hbl⟩
          clear hown HOL HOD HC
          obtain ⟨wo, hwo⟩ : ∃ wo : World, wo = wr := ⟨_, rfl⟩
          subst hwo
          go_wp2
          go_loopw [7, 9] (fun cy kv wr => RMulCy w (w.heap.size + 3) n m C w1 cy kv wr) (fun _ kv _ => n + m + 1 - (intOf kv).toNat)
          case atStart => exact hcy
          case round =>
            clear hcy hA hB hbl
            obtain ⟨k, q, p, hk, rfl, rfl, hq, hown, hol, hod, hval, hbl⟩ := hrel
            have HOL := Lib.hid hol; clear hol
            have HOD := Lib.hid hod; clear hod
            have HV := Lib.hid hval; clear hval
            by_cases hq0 : 0 < q
            · have hkn : k < n + m := by
                have h1 : 10000 ^ k * 1 ≤ 10000 ^ k * q := Nat.mul_le_mul_left _ hq0
                have h2 : 10000 ^ k < 10000 ^ (n + m) := by have := HV.out; have := HB.out; omega
                exact (Nat.pow_lt_pow_iff_right (by omega)).1 h2
              have hz : dg p k < 10000 := dg_lt HOD.out (by omega) k
              obtain ⟨hoc, hof, _, _⟩ := hown.slot k (by have := HOL.out; omega)
              have hstep := Lib.hid (carry_step (B := 10000) (k := k) (q := q) (p := p) (by have := HOL.out; omega) rfl)
              generalize dg p k = z at *
              have hst := hown.store k ((q + z) % 10000)
              have hq' : (q + z) / 10000 < 10000 := by omega
              go_wp2
              go_roundw
              case rel => exact ⟨k + 1, (q + z) / 10000, _, by omega, by go_num, by go_num, hq', hst.1, by rw [List.length_set]; exact HOL.out, set_lt HOD.out (Nat.mod_lt _ (by omega)), hstep.out.trans HV.out, hbl.trans hst.2⟩
              case measure => simp [intOf]; omega
            · have hq00 : q = 0 := by omega
              have hend : val 10000 p = C := by have := HV.out; rw [hq00] at this; simpa using this
              have HEND := Lib.hid (hend.trans HCC.out.symm)
              have hq0I : decide ((0 : Int) < (q : Int)) = false := by simp; omega
              clear hq00 hend
              go_wp2
              go_roundw
              case rel => exact ⟨i + 1, p, by omega, by go_num, hown, HOL.out, HOD.out, HEND.out, hbl⟩
              case measure => simp [intOf]; omega
    · have hkn : Hid (val 10000 p = val 10000 l * val 10000 r) := by
        show _ = _
        rw [HV.out, val_take_all _ _ _ (by have := hlen.out; omega)]
      have hsi := hown.intsAt
      have hF3 := ent_below hbl (by omega) F3
      have hws := hbl.size
      go_wp2_with (go_at_call 103; refine (rcut_spec hsi HOD.out).mono ?_; rintro e w2 ⟨t, rfl, ht, htn, hb2⟩; have hE3' := ent_up hb2 hF3; have hR := ent_cell hE3' 0; have hRf := ent_frozen hE3' 0)
      rw [hkn.out] at ht
      refine bodyPost_ret (v := .agg #[.slice t.ao t.n t.c]) (by simp [results, Tryz.results118, go_sem, hR]) rfl ⟨t, rfl, ht.kp ((Kp.refl _).setCell (a := ⟨w.heap.size + 1 + 1, 0, none⟩) hE3' (by decide) _), ?_⟩
      exact ((hbw1.trans (hbl.mono (by omega))).trans (hb2.mono (by omega))).setCell (by simp; omega) _

theorem RefS.n_bound {w : World} {s : Sl} {x k : Nat} (h : RefS w s x) (hx : x < 10000 ^ k) : s.n ≤ k := by
  obtain ⟨l, h1, h2, h3, h4⟩ := h
  rw [h1.1]
  exact h3.len_of_lt (B := 10000) (by omega) (by rw [h4]; exact hx)
theorem RefS.lt_pow {w : World} {s : Sl} {x : Nat} (h : RefS w s x) : x < 10000 ^ s.n := by
  obtain ⟨l, h1, h2, h3, h4⟩ := h
  rw [← h4, h1.1]
  exact val_lt _ _ h2

/-- The product. -/
theorem rmul_spec {w : World} {s t : Sl} {x y : Nat} (h : RefS w s x) (h' : RefS w t y) (hn : s.n ≤ 1000000000000) (hm : t.n ≤ 1000000000000) :
    Calls Tryz.prog 118 #[.agg #[.slice s.ao s.n s.c], .agg #[.slice t.ao t.n t.c]] w fun e w' =>
      ∃ u : Sl, e = .returned (.agg #[.slice u.ao u.n u.c]) ∧ RefS w' u (x * y) ∧ u.n ≤ s.n + t.n ∧ Below w.heap.size w w' := by
  have hb : x * y < 10000 ^ (s.n + t.n) := by
    rw [Nat.pow_add]
    have h1 := h.lt_pow
    have h2 := h'.lt_pow
    have h3 : x * y ≤ x * 10000 ^ t.n := Nat.mul_le_mul_left _ (Nat.le_of_lt h2)
    have h4 : x * 10000 ^ t.n < 10000 ^ s.n * 10000 ^ t.n := Nat.mul_lt_mul_of_pos_right h1 (Nat.pow_pos (by omega))
    omega
  obtain ⟨l, h1, h2, h3, h4⟩ := h
  obtain ⟨r, g1, g2, g3, g4⟩ := h'
  subst h4
  subst g4
  refine (rmul_walk s.ao t.ao s.n t.n s.c t.c l r w h1 g1 h2 g2 hn hm).mono ?_
  rintro e w' ⟨u, rfl, hu, hbl⟩
  exact ⟨u, rfl, hu, hu.n_bound hb, hbl⟩

end Go.Proofs.YtaafmafdnnjmdaaGreat

namespace Go.Proofs.YtaafmafdnnjmdaaGreat
open Go.RowKit

end Go.Proofs.YtaafmafdnnjmdaaGreat

namespace Go.Proofs.YtaafmafdnnjmdaaGreat
open Go.RowKit

/-- Div's memory. -/
def RDivSt (w : World) (s t : Sl) (R g : Nat) (o : List Nat) (sr : Sl) (P : Nat) (wr : World) : Prop :=
  wr.heap[w.heap.size]? = some (.cells #[.slice s.ao s.n s.c] 38 (0, 0)) ∧ wr.heap[w.heap.size + 1]? = some (.cells #[.slice t.ao t.n t.c] 38 (0, 0)) ∧
  wr.heap[w.heap.size + 1 + 1]? = some (.cells #[.slice none 0 0] 38 (0, 0)) ∧ wr.heap[w.heap.size + 1 + 1 + 1]? = some (.cells #[.slice none 0 0] 38 (0, 0)) ∧
  wr.heap[R]? = some (.cells #[.slice sr.ao sr.n sr.c] 38 (0, 0)) ∧ RefS wr sr P ∧ Own wr (w.heap.size + 4) 3 .i64 (.slice (some ⟨g, 0, none⟩) s.n s.n) o ∧ Below w.heap.size w wr

theorem RDivSt.up {w : World} {s t : Sl} {R g : Nat} {o : List Nat} {sr : Sl} {P : Nat} {wr w' : World} (h : RDivSt w s t R g o sr P wr) (hb : Below wr.heap.size wr w') : RDivSt w s t R g o sr P w' :=
  ⟨ent_up hb h.1, ent_up hb h.2.1, ent_up hb h.2.2.1, ent_up hb h.2.2.2.1, ent_up hb h.2.2.2.2.1, h.2.2.2.2.2.1.up hb, h.2.2.2.2.2.2.1.below hb (Nat.le_refl _), h.2.2.2.2.2.2.2.trans (hb.mono h.2.2.2.2.2.2.2.size)⟩
theorem RDivSt.drewN {w : World} {s t : Sl} {R g : Nat} {o : List Nat} {sr : Sl} {P : Nat} {wr : World} (h : RDivSt w s t R g o sr P wr) : RDivSt w s t R g o sr P wr.drew :=
  ⟨h.1, h.2.1, h.2.2.1, h.2.2.2.1, h.2.2.2.2.1, h.2.2.2.2.2.1, h.2.2.2.2.2.2.1, h.2.2.2.2.2.2.2.drew⟩
/-- Another rest. -/
theorem RDivSt.rest {w : World} {s t : Sl} {R g : Nat} {o : List Nat} {sr sr' : Sl} {P P' : Nat} {wr : World} (h : RDivSt w s t R g o sr P wr) (h' : RefS wr sr' P') (hR : w.heap.size + 1 + 1 + 1 < R) (hg : g ≠ R) : RDivSt w s t R g o sr' P' (wr.setCell ⟨R, 0, none⟩ (.slice sr'.ao sr'.n sr'.c)) :=
  ⟨ent_set_other h.1 (by simp; omega) _, ent_set_other h.2.1 (by simp; omega) _, ent_set_other h.2.2.1 (by simp; omega) _, ent_set_other h.2.2.2.1 (by simp; omega) _, ent_set h.2.2.2.2.1 _,
    h'.kp ((Kp.refl _).setCell (a := ⟨R, 0, none⟩) h.2.2.2.2.1 (by decide) _), h.2.2.2.2.2.2.1.set_ne (by simpa using hg) _, h.2.2.2.2.2.2.2.setCell (by simp; omega) _⟩
theorem rcmp_any {w : World} {s t : Sl} {x y : Nat} (h : RefS w s x) (h' : RefS w t y) (hn : s.n ≤ 1000000000000) (hm : t.n ≤ 1000000000000) :
    Calls Tryz.prog 39 #[.agg #[.slice s.ao s.n s.c], .agg #[.slice t.ao t.n t.c]] w fun e w' =>
      ∃ c : Int, e = .returned (.int .i64 c) ∧ (x ≤ y → c ≤ 0) ∧ (y < x → 0 < c) ∧ Below w.heap.size w w' := by
  refine (rcmp_spec h h' hn hm).mono ?_
  rintro e w' ⟨rfl, hb⟩
  refine ⟨_, rfl, fun hle => ?_, fun hlt => ?_, hb⟩
  · rcases Nat.lt_or_eq_of_le hle with h | h
    · rw [cmpN_lt h]; omega
    · subst h; rw [cmpN_eq]; omega
  · rw [cmpN_gt hlt]; omega

end Go.Proofs.YtaafmafdnnjmdaaGreat

namespace Go.Proofs.YtaafmafdnnjmdaaGreat
open Go.RowKit

/-- Two's memory. -/
def RTwoSt (w : World) (b3 b4 : Nat) (sa sb : Sl) (a b : Nat) (wr : World) : Prop :=
  wr.heap[w.heap.size]? = some (.cells #[.slice none 0 0] 38 (0, 0)) ∧ wr.heap[b3]? = some (.cells #[.slice sa.ao sa.n sa.c] 38 (0, 0)) ∧ wr.heap[b4]? = some (.cells #[.slice sb.ao sb.n sb.c] 38 (0, 0)) ∧
  RefS wr sa a ∧ RefS wr sb b ∧ Below w.heap.size w wr
theorem RTwoSt.up {w : World} {b3 b4 : Nat} {sa sb : Sl} {a b : Nat} {wr w' : World} (h : RTwoSt w b3 b4 sa sb a b wr) (hb : Below wr.heap.size wr w') : RTwoSt w b3 b4 sa sb a b w' :=
  ⟨ent_up hb h.1, ent_up hb h.2.1, ent_up hb h.2.2.1, h.2.2.2.1.up hb, h.2.2.2.2.1.up hb, h.2.2.2.2.2.trans (hb.mono h.2.2.2.2.2.size)⟩
theorem RTwoSt.setB {w : World} {b3 b4 : Nat} {sa sb u : Sl} {a b x : Nat} {wr : World} (h : RTwoSt w b3 b4 sa sb a b wr) (hu : RefS wr u x) (h3 : w.heap.size < b3) (h34 : b3 < b4) : RTwoSt w b3 b4 sa u a x (wr.setCell ⟨b4, 0, none⟩ (.slice u.ao u.n u.c)) :=
  ⟨ent_set_other h.1 (by simp; omega) _, ent_set_other h.2.1 (by simp; omega) _, ent_set h.2.2.1 _, h.2.2.2.1.kp ((Kp.refl _).setCell (a := ⟨b4, 0, none⟩) h.2.2.1 (by decide) _), hu.kp ((Kp.refl _).setCell (a := ⟨b4, 0, none⟩) h.2.2.1 (by decide) _), h.2.2.2.2.2.setCell (by simp; omega) _⟩

end Go.Proofs.YtaafmafdnnjmdaaGreat

namespace Go.Proofs.YtaafmafdnnjmdaaGreat
open Go.RowKit

theorem txt_dec_size {x k : Nat} (h : (dl x).length ≤ k) : (txt (dec x)).size ≤ k + 1 := by
  have e : (txt (dec x)).size = (dec x).length := by simp [txt, ByteArray.size]
  rw [e]
  unfold dec
  split
  · simp
  · simp; omega

end Go.Proofs.YtaafmafdnnjmdaaGreat
