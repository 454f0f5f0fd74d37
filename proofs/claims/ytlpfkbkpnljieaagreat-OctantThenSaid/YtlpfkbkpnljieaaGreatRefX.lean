/- The reference: Of, Cmp. The reference: Add, Less. The reference: Mul, Small. The reference: Small, Div. The reference: Div. The reference: Gcd, Two. A text's length. -/
import Derived.Test.YtlpfkbkpnljieaaGreatProg
import Derived.Test.YtlpfkbkpnljieaaGreatBase
import Derived.Deep.QuietTactic
import Derived.BigQuiet
import Derived.Test.YtlpfkbkpnljieaaGreatRefU
import Derived.Deep.DeepCutAuto
import Derived.IntWalk
import Derived.Deep.RegionWith
import Derived.Deep.RegionLaw
import Derived.Deep.LoopGhost
import Derived.Deep.RegionHeld3
import Derived.Deep.CutBlock
import Derived.Test.YtlpfkbkpnljieaaGreatNatX
set_option linter.unusedSimpArgs false
set_option linter.unusedVariables false
namespace Go.Proofs.YtlpfkbkpnljieaaGreat
open Go.RowKit

/-- One digit by ten thousands more. -/
theorem rof_step {x n : Nat} {o : List Nat} (hx : x < 18446744073709551616) (hn : 0 < n) (hd : ∀ d ∈ o, d < 10000) (hv : val 10000 o + 10000 ^ o.length * n = x) (hl : o.length ≤ 4) :
    (∀ d ∈ o ++ [n % 10000], d < 10000) ∧ val 10000 (o ++ [n % 10000]) + 10000 ^ (o ++ [n % 10000]).length * (n / 10000) = x ∧ (n / 10000 = 0 → Norm (o ++ [n % 10000])) ∧ (0 < n / 10000 → (o ++ [n % 10000]).length ≤ 4) ∧ (o ++ [n % 10000]).length ≤ 5 := by
  have e : val 10000 (o ++ [n % 10000]) + 10000 ^ (o ++ [n % 10000]).length * (n / 10000) = x := by
    rw [← hv, val_snoc, List.length_append, List.length_singleton, Nat.pow_succ]
    have h1 := Nat.div_add_mod n 10000
    generalize n / 10000 = u at *
    generalize n % 10000 = v at *
    subst h1
    grind
  refine ⟨snoc_lt hd (Nat.mod_lt _ (by omega)), e, fun h => ?_, fun h => ?_, by simp; omega⟩
  · unfold Norm
    simp
    omega
  · have h2 : 10000 ^ (o ++ [n % 10000]).length * 1 ≤ 10000 ^ (o ++ [n % 10000]).length * (n / 10000) := Nat.mul_le_mul_left _ h
    have h3 : 10000 ^ (o ++ [n % 10000]).length < 10000 ^ 5 := by omega
    have := (Nat.pow_lt_pow_iff_right (by omega)).1 h3
    omega

def ROfRel (w : World) (x : Nat) (nv dv : Value) (wr : World) : Prop := ∃ (n : Nat) (o : List Nat), nv = .int .u64 n ∧ n < 18446744073709551616 ∧ (∀ d ∈ o, d < 10000) ∧ val 10000 o + 10000 ^ o.length * n = x ∧ (n = 0 → Norm o) ∧ (0 < n → o.length ≤ 4) ∧ o.length ≤ 5 ∧
  Own wr (w.heap.size + 1) 3 .i64 dv o ∧ wr.heap[w.heap.size]? = some (.cells #[.slice none 0 0] 35 (0, 0)) ∧ Below w.heap.size w wr

set_option maxHeartbeats 800000 in
theorem rof_spec (x : Nat) (w : World) (hx : x < 18446744073709551616) :
    Calls Tryz.prog 46 #[.int .u64 (x : Int)] w fun e w' =>
      ∃ u : Sl, e = .returned (.agg #[.slice u.ao u.n u.c]) ∧ RefS w' u x ∧ u.n ≤ 5 ∧ Below w.heap.size w w' := by
  have hE := ents1 w (.cells #[.slice none 0 0] 35)
  have hbx : Below w.heap.size w _ := (Below.refl w.heap.size w).alloc (Nat.le_refl _) (.cells #[.slice none 0 0] 35)
  have hinit : ROfRel w x (.int .u64 x) (.slice none 0 0) _ := ⟨x, [], rfl, hx, by simp, by simp [val], fun _ => norm_nil, fun _ => by simp, by simp, Own.nil _ _ _ _, hE.1, hbx⟩
  clear hE hbx
  go_enter Tryz.func46, Tryz.ntmps46
  go_wp2
  go_loopw [0, 3] (fun nv dv wr => ROfRel w x nv dv wr) (fun nv _ _ => (intOf nv).toNat)
  case atStart => exact hinit
  case round =>
    clear hinit
    obtain ⟨n, o, rfl, hn, hd, hv, hno, hl4, hl5, hown, hE, hbl⟩ := hrel
    have hws : w.heap.size + 1 ≤ wr.heap.size := ent_lt hE
    have Hd := Lib.hid hd; clear hd
    have Hv := Lib.hid hv; clear hv
    have Hno := Lib.hid hno; clear hno
    have hl4' := Lib.hid hl4; clear hl4
    by_cases hn0 : 0 < n
    · have hst := rof_step hx hn0 Hd.out Hv.out (hl4'.out hn0)
      have Hst := Lib.hid hst; clear hst
      have hlt2 : n / 10000 < 18446744073709551616 := by omega
      go_wp2_with (at_builtin; refine wpList_push rowInt _ rfl _ _ rfl (w.heap.size + 1) u3 o _ (n % 10000) rfl rfl hown (by first | rfl | omega) (by omega) (by unfold maxLen; omega) hws ?_; intro v' w' hown' hb')
      have hE' := ent_below hb' (by omega) hE
      go_wp2
      go_roundw
      case rel => exact ⟨n / 10000, o ++ [n % 10000], by go_num, hlt2, Hst.out.1, Hst.out.2.1, Hst.out.2.2.1, Hst.out.2.2.2.1, Hst.out.2.2.2.2, hown', hE', hbl.trans (hb'.mono (by omega))⟩
      case measure => simp [intOf]; omega
    · have hn0' : n = 0 := by omega
      subst hn0'
      obtain ⟨t, rfl, hti⟩ := hown.ints
      have hR := ent_cell hE 0
      have hRf := ent_frozen hE 0
      have htl := Lib.hid hti.1
      have HN := Lib.hid (Hno.out rfl)
      clear Hno hl4'
      go_wp2
      refine bodyPost_ret (v := .agg #[.slice t.ao t.n t.c]) (by simp [results, Tryz.results46, go_sem, hR]) rfl ⟨t, rfl, ⟨o, hti.kp (.inr (.inl rfl)) ((Kp.refl _).setCell (a := ⟨w.heap.size, 0, none⟩) hE (by decide) _), Hd.out, HN.out, by simpa using Hv.out⟩, by have := htl.out; omega, hbl.setCell (by simp) _⟩

set_option maxHeartbeats 800000 in
theorem rcmp_walk (ao bo : Option Addr) (n m c d : Nat) (l r : List Nat) (w : World) (h : IntsAt w 3 .i64 ⟨ao, n, c⟩ l) (h' : IntsAt w 3 .i64 ⟨bo, m, d⟩ r) (hl : ∀ d ∈ l, d < 10000) (hr : ∀ d ∈ r, d < 10000) (hn : n ≤ 8000000000000) (hm : m ≤ 8000000000000) (nl : Norm l) (nr : Norm r) :
    Calls Tryz.prog 115 #[.agg #[.slice ao n c], .agg #[.slice bo m d]] w fun e w' =>
      e = .returned (.int .i64 (cmpN (val 10000 l) (val 10000 r))) ∧ Below w.heap.size w w' := by
  have hop : Hid (0 < n → ∃ b off, ao = some ⟨b, off, none⟩ ∧ b < w.heap.size ∧ ∀ i, i < n → w.cell? ⟨b, off + i, none⟩ = some (.int .i64 ((dg l i : Nat) : Int))) := h.open
  have hop' : Hid (0 < m → ∃ b off, bo = some ⟨b, off, none⟩ ∧ b < w.heap.size ∧ ∀ i, i < m → w.cell? ⟨b, off + i, none⟩ = some (.int .i64 ((dg r i : Nat) : Int))) := h'.open
  have hlen : Hid (n = l.length) := h.1
  have hlen' : Hid (m = r.length) := h'.1
  clear h h'
  have hll : Hid (∀ d ∈ l, d < 10000) := hl
  have hrr : Hid (∀ d ∈ r, d < 10000) := hr
  have hnl := Lib.hid nl
  have hnr := Lib.hid nr
  clear hl hr nl nr
  have hbx : Below w.heap.size w ((w.alloc (.cells #[.slice ao n c] 35)).alloc (.cells #[.slice bo m d] 35)) := ((Below.refl _ _).alloc (Nat.le_refl _) _).alloc (by simp) _
  rcases Nat.lt_trichotomy n m with hc | hc | hc
  · have hres := Lib.hid (cmpN_lt (hnr.out.len_lt (B := 10000) (l := l) (by omega) hll.out (by have := hlen.out; have := hlen'.out; omega)))
    go_enter Tryz.func115, Tryz.ntmps115
    go_wp2
    go_ret
    exact ⟨by rw [hres.out]; rfl, hbx⟩
  · subst hc
    obtain ⟨hE1, hE2, hWs⟩ := ents2 w (.cells #[.slice ao n c] 35) (.cells #[.slice bo n d] 35)
    generalize hW : ((w.alloc (.cells #[.slice ao n c] 35)).alloc (.cells #[.slice bo n d] 35)) = W at hbx hE1 hE2 hWs
    have HWs := Lib.hid hWs; clear hWs
    have HW := Lib.hid hW; clear hW
    go_enter Tryz.func115, Tryz.ntmps115
    go_wp2
    rw [HW.out]
    go_loopw [5] (fun i wr => ∃ k : Nat, k ≤ n ∧ i = .int .i64 ((k : Int) - 1) ∧ Hid (∀ j, k ≤ j → j < n → dg l j = dg r j) ∧ Below (w.heap.size + 2) W wr) (fun i _ => (intOf i + 1).toNat)
    case atStart => exact ⟨n, Nat.le_refl _, rfl, by unfold Hid; intro j a b; omega, Below.refl _ _⟩
    case round =>
      obtain ⟨k, hk, rfl, heq, hbl⟩ := hrel
      by_cases hlt : 0 < k
      · obtain ⟨j, rfl⟩ : ∃ j, k = j + 1 := ⟨k - 1, by omega⟩
        obtain ⟨b, off, rfl, hbw0, hcell⟩ := hop.out (by omega)
        obtain ⟨b', off', rfl, hbw0', hcell'⟩ := hop'.out (by omega)
        have hA := ent_cell (ent_below hbl (by omega) hE1) 0
        have hB := ent_cell (ent_below hbl (by omega) hE2) 0
        have hck : wr.cell? ⟨b, off + j, none⟩ = some (.int .i64 ((dg l j : Nat) : Int)) := ((hbl.cell (p := ⟨b, off + j, none⟩) (by simp; omega)).trans (hbx.cell (p := ⟨b, off + j, none⟩) hbw0)).trans (hcell j (by omega))
        have hck' : wr.cell? ⟨b', off' + j, none⟩ = some (.int .i64 ((dg r j : Nat) : Int)) := ((hbl.cell (p := ⟨b', off' + j, none⟩) (by simp; omega)).trans (hbx.cell (p := ⟨b', off' + j, none⟩) hbw0')).trans (hcell' j (by omega))
        clear hcell hcell'
        have hj1 : (0 : Int) ≤ (j : Int) := by omega
        have hj2 : (j : Int) < (n : Int) := by omega
        by_cases hxy : dg l j = dg r j
        · rw [hxy] at hck
          have heq' : Hid (∀ i, j ≤ i → i < n → dg l i = dg r i) := fun i a b => by
            by_cases hij : i = j
            · rw [hij]; exact hxy
            · exact heq.out i (by omega) b
          clear hxy
          have hxb : dg r j < 10000 := dg_lt hrr.out (by omega) j
          generalize dg r j = x at *
          go_wp2
          go_quiet (fail)
          go_wp2
          go_quiet (fail)
          go_wp2
          go_roundw
          case rel => first | exact ⟨j, by omega, rfl, heq', below_drewN hbl _⟩ | exact ⟨j, by omega, rfl, heq', below_drewN (below_drewN hbl _) _⟩
          case measure => simp [intOf]
        · rcases Nat.lt_or_ge (dg l j) (dg r j) with hlt2 | hge2
          · have hres := Lib.hid (cmpN_lt (val_lt_at (B := 10000) (l := l) (m := r) (i := j) (by have := hlen.out; have := hlen'.out; omega) (by have := hlen.out; omega) hll.out hlt2 (fun i a b => heq.out i (by omega) (by have := hlen.out; omega))))
            clear hxy
            generalize dg r j = y at *
            generalize dg l j = x at *
            have hxy3 : (x : Int) < (y : Int) := by omega
            go_wp2
            go_quiet (fail)
            go_wp2
            go_ret
            exact ⟨by rw [hres.out]; rfl, below_drewN (hbx.trans (hbl.mono (by omega))) _⟩
          · have hres := Lib.hid (cmpN_gt (val_lt_at (B := 10000) (l := r) (m := l) (i := j) (by have := hlen.out; have := hlen'.out; omega) (by have := hlen'.out; omega) hrr.out (by omega) (fun i a b => (heq.out i (by omega) (by have := hlen'.out; omega)).symm)))
            have hxy3 : dg r j < dg l j := by omega
            clear hxy hge2
            generalize dg r j = y at *
            generalize dg l j = x at *
            have hxy4 : ¬ (x : Int) < (y : Int) := by omega
            have hxy5 : (y : Int) < (x : Int) := by omega
            go_wp2
            go_quiet (fail)
            go_wp2
            go_quiet (fail)
            go_wp2
            go_ret
            exact ⟨by rw [hres.out]; rfl, below_drewN (below_drewN (hbx.trans (hbl.mono (by omega))) _) _⟩
      · obtain rfl : k = 0 := by omega
        have hres : l = r := eq_of_digits (by have := hlen.out; have := hlen'.out; omega) (fun i a => heq.out i (by omega) (by have := hlen.out; omega))
        have hres := Lib.hid hres
        go_wp2
        go_ret
        exact ⟨by rw [hres.out, cmpN_eq]; rfl, hbx.trans (hbl.mono (by omega))⟩
  · have hres := Lib.hid (cmpN_gt (hnl.out.len_lt (B := 10000) (l := r) (by omega) hrr.out (by have := hlen.out; have := hlen'.out; omega)))
    go_enter Tryz.func115, Tryz.ntmps115
    go_wp2
    go_ret
    exact ⟨by rw [hres.out]; rfl, hbx⟩

/-- Which is the greater. -/
theorem rcmp_spec {w : World} {s t : Sl} {x y : Nat} (h : RefS w s x) (h' : RefS w t y) (hn : s.n ≤ 8000000000000) (hm : t.n ≤ 8000000000000) :
    Calls Tryz.prog 115 #[.agg #[.slice s.ao s.n s.c], .agg #[.slice t.ao t.n t.c]] w fun e w' =>
      e = .returned (.int .i64 (cmpN x y)) ∧ Below w.heap.size w w' := by
  obtain ⟨l, h1, h2, h3, h4⟩ := h
  obtain ⟨r, g1, g2, g3, g4⟩ := h'
  subst h4
  subst g4
  exact rcmp_walk s.ao t.ao s.n t.n s.c t.c l r w h1 g1 h2 g2 hn hm h3 g3

end Go.Proofs.YtlpfkbkpnljieaaGreat

namespace Go.Proofs.YtlpfkbkpnljieaaGreat
open Go.RowKit

theorem norm_snoc {o : List Nat} {d : Nat} (h : d ≠ 0) : Norm (o ++ [d]) := by unfold Norm; simpa using h
theorem norm_of_val {B : Nat} {o : List Nat} (hd : ∀ d ∈ o, d < B) (hv : B ^ (o.length - 1) ≤ val B o) (hl : 0 < o.length) : Norm o := by
  obtain ⟨m, d, rfl⟩ : ∃ m d, o = m ++ [d] := ⟨o.dropLast, o.getLast (by rintro rfl; simp at hl), (List.dropLast_concat_getLast _).symm⟩
  intro h
  have hd0 : d = 0 := by simpa using h
  subst hd0
  rw [val_snoc] at hv
  have := val_lt B m (fun x hx => hd x (by simp [hx]))
  simp at hv
  omega

def RLessRel (w : World) (n : Nat) (l r : List Nat) (W : World) (dv cy iv : Value) (wr : World) : Prop := ∃ (k : Nat) (o : List Nat) (q : Nat), k ≤ n ∧ iv = .int .i64 k ∧ cy = .int .i64 q ∧ q ≤ 1 ∧ Own wr (w.heap.size + 3) 3 .i64 dv o ∧ o.length = k ∧ (∀ d ∈ o, d < 10000) ∧ val 10000 (l.take k) + 10000 ^ k * q = val 10000 o + val 10000 (r.take k) ∧ Below (w.heap.size + 3) W wr

set_option maxHeartbeats 1600000 in
theorem rless_walk (ao bo : Option Addr) (n m c d : Nat) (l r : List Nat) (w : World) (h : IntsAt w 3 .i64 ⟨ao, n, c⟩ l) (h' : IntsAt w 3 .i64 ⟨bo, m, d⟩ r) (hl : ∀ d ∈ l, d < 10000) (hr : ∀ d ∈ r, d < 10000) (hn : n ≤ 8000000000000) (hmn : m ≤ n) (hv : val 10000 r ≤ val 10000 l) :
    Calls Tryz.prog 118 #[.agg #[.slice ao n c], .agg #[.slice bo m d]] w fun e w' =>
      ∃ (s : Sl), e = .returned (.agg #[.slice s.ao s.n s.c]) ∧ RefS w' s (val 10000 l - val 10000 r) ∧ s.n ≤ n ∧ Below w.heap.size w w' := by
  have hop : Hid (0 < n → ∃ b off, ao = some ⟨b, off, none⟩ ∧ b < w.heap.size ∧ ∀ i, i < n → w.cell? ⟨b, off + i, none⟩ = some (.int .i64 ((dg l i : Nat) : Int))) := h.open
  have hop' : Hid (0 < m → ∃ b off, bo = some ⟨b, off, none⟩ ∧ b < w.heap.size ∧ ∀ i, i < m → w.cell? ⟨b, off + i, none⟩ = some (.int .i64 ((dg r i : Nat) : Int))) := h'.open
  have hlen : Hid (n = l.length) := h.1
  have hlen' : Hid (m = r.length) := h'.1
  clear h h'
  have hll : Hid (∀ d ∈ l, d < 10000) := hl
  have hrr : Hid (∀ d ∈ r, d < 10000) := hr
  clear hl hr
  have hvv := Lib.hid hv; clear hv
  obtain ⟨hE1, hE2, hE3, hz⟩ := ents3 w (.cells #[.slice ao n c] 35) (.cells #[.slice bo m d] 35) (.cells #[.slice none 0 0] 35)
  have hbw : Below w.heap.size w (((w.alloc (.cells #[.slice ao n c] 35)).alloc (.cells #[.slice bo m d] 35)).alloc (.cells #[.slice none 0 0] 35)) := (((Below.refl _ _).alloc (Nat.le_refl _) _).alloc (by simp) _).alloc (by simp; omega) _
  have hWs : w.heap.size + 3 ≤ (((w.alloc (.cells #[.slice ao n c] 35)).alloc (.cells #[.slice bo m d] 35)).alloc (.cells #[.slice none 0 0] 35)).heap.size := Nat.le_of_eq hz.symm
  clear hz
  generalize hW : (((w.alloc (.cells #[.slice ao n c] 35)).alloc (.cells #[.slice bo m d] 35)).alloc (.cells #[.slice none 0 0] 35)) = W at hE1 hE2 hE3 hbw hWs
  have HW := Lib.hid hW; clear hW
  have hinit : RLessRel w n l r W (.slice none 0 0) (.int .i64 0) (.int .i64 0) W := ⟨0, [], 0, Nat.zero_le _, rfl, rfl, by omega, Own.nil _ _ _ _, rfl, by simp, by simp [val], Below.refl _ _⟩
  go_enter Tryz.func118, Tryz.ntmps118
  go_wp2
  rw [HW.out]
  go_loopw [5, 6, 7] (fun dv cy iv wr => RLessRel w n l r W dv cy iv wr) (fun _ _ iv _ => n - (intOf iv).toNat)
  case atStart => exact hinit
  case round =>
    clear hinit
    obtain ⟨k, o, q, hk, rfl, rfl, hq, hown, hol, hod, hval, hbl⟩ := hrel
    have HOL := Lib.hid hol; clear hol
    have HOD := Lib.hid hod; clear hod
    have HV := Lib.hid hval; clear hval
    have hws : w.heap.size + 3 ≤ wr.heap.size := Nat.le_trans hWs hbl.size
    have hA := ent_cell (ent_below hbl (by omega) hE1) 0
    have hB := ent_cell (ent_below hbl (by omega) hE2) 0
    have hl1 : (o.length + 1) * 8 ≤ 140737488355328 := by have := HOL.out; omega
    have hl2 : o.length + 1 ≤ maxLen := by have := HOL.out; unfold maxLen; omega
    by_cases hlt : k < n
    · obtain ⟨b, off, rfl, hbw0, hcell⟩ := hop.out (by omega)
      have hck : wr.cell? ⟨b, off + k, none⟩ = some (.int .i64 ((dg l k : Nat) : Int)) := ((hbl.cell (p := ⟨b, off + k, none⟩) (by simp; omega)).trans (hbw.cell (p := ⟨b, off + k, none⟩) hbw0)).trans (hcell k hlt)
      clear hcell
      have hx : dg l k < 10000 := dg_lt hll.out (by omega) k
      by_cases hltm : k < m
      · obtain ⟨b', off', rfl, hbw0', hcell'⟩ := hop'.out (by omega)
        have hck' : wr.cell? ⟨b', off' + k, none⟩ = some (.int .i64 ((dg r k : Nat) : Int)) := ((hbl.cell (p := ⟨b', off' + k, none⟩) (by simp; omega)).trans (hbw.cell (p := ⟨b', off' + k, none⟩) hbw0')).trans (hcell' k hltm)
        clear hcell'
        have hy : dg r k < 10000 := dg_lt hrr.out (by omega) k
        by_cases hneg : dg l k < q + dg r k
        · have hstep := Lib.hid (less_step2 (B := 10000) (x := dg l k) (y := dg r k) (r := r) HOL.out rfl rfl (by omega) HV.out)
          generalize dg l k = x at *
          generalize dg r k = y at *
          go_wp2_with (at_builtin; refine wpList_push rowInt _ rfl _ _ rfl (w.heap.size + 3) u5 o _ (x + 10000 - (q + y)) rfl rfl hown (by first | rfl | omega) hl1 hl2 hws ?_; intro v' w' hown' hb')
          go_wp2
          go_roundw
          case rel => exact ⟨k + 1, o ++ [x + 10000 - (q + y)], 1, by omega, by go_num, by first | rfl | go_num, by omega, hown', by simp [HOL.out], snoc_lt HOD.out (by omega), hstep.out, hbl.trans hb'⟩
          case measure => simp [intOf]; omega
        · have hstep := Lib.hid (less_step1 (B := 10000) (x := dg l k) (y := dg r k) (r := r) HOL.out rfl rfl (by omega) HV.out)
          generalize dg l k = x at *
          generalize dg r k = y at *
          go_wp2_with (at_builtin; refine wpList_push rowInt _ rfl _ _ rfl (w.heap.size + 3) u5 o _ (x - (q + y)) rfl rfl hown (by first | rfl | omega) hl1 hl2 hws ?_; intro v' w' hown' hb')
          go_wp2
          go_roundw
          case rel => exact ⟨k + 1, o ++ [x - (q + y)], 0, by omega, by go_num, by first | rfl | go_num, by omega, hown', by simp [HOL.out], snoc_lt HOD.out (by omega), hstep.out, hbl.trans hb'⟩
          case measure => simp [intOf]; omega
      · by_cases hneg : dg l k < q
        · have hstep := Lib.hid (less_step2 (B := 10000) (x := dg l k) (y := 0) (r := r) HOL.out rfl (dg_big (by have := hlen'.out; omega)) (by omega) HV.out)
          generalize dg l k = x at *
          go_wp2_with (at_builtin; refine wpList_push rowInt _ rfl _ _ rfl (w.heap.size + 3) u5 o _ (x + 10000 - (q + 0)) rfl rfl hown (by first | rfl | omega) hl1 hl2 hws ?_; intro v' w' hown' hb')
          go_wp2
          go_roundw
          case rel => exact ⟨k + 1, o ++ [x + 10000 - (q + 0)], 1, by omega, by go_num, by first | rfl | go_num, by omega, hown', by simp [HOL.out], snoc_lt HOD.out (by omega), hstep.out, hbl.trans hb'⟩
          case measure => simp [intOf]; omega
        · have hstep := Lib.hid (less_step1 (B := 10000) (x := dg l k) (y := 0) (r := r) HOL.out rfl (dg_big (by have := hlen'.out; omega)) (by omega) HV.out)
          generalize dg l k = x at *
          go_wp2_with (at_builtin; refine wpList_push rowInt _ rfl _ _ rfl (w.heap.size + 3) u5 o _ (x - (q + 0)) rfl rfl hown (by first | rfl | omega) hl1 hl2 hws ?_; intro v' w' hown' hb')
          go_wp2
          go_roundw
          case rel => exact ⟨k + 1, o ++ [x - (q + 0)], 0, by omega, by go_num, by first | rfl | go_num, by omega, hown', by simp [HOL.out], snoc_lt HOD.out (by omega), hstep.out, hbl.trans hb'⟩
          case measure => simp [intOf]; omega
    · have hkn : Hid (k = n) := by unfold Hid; omega
      obtain ⟨s, rfl, hs⟩ := hown.ints
      have hE3' := ent_below hbl (by omega) hE3
      have hsl := Lib.hid hs.1
      go_wp2_with (go_at_call 84; refine (rcut_spec hs HOD.out).mono ?_; rintro e w2 ⟨t, rfl, ht, htn, hb2⟩; have hF := ent_up hb2 hE3'; have hR := ent_cell hF 0; have hRf := ent_frozen hF 0)
      refine bodyPost_ret (v := .agg #[.slice t.ao t.n t.c]) (by simp [results, Tryz.results118, go_sem, hR]) rfl ⟨t, rfl, ?_, ?_, ?_⟩
      · have e : val 10000 o = val 10000 l - val 10000 r := by
          have h1 := HV.out
          rw [val_take_all _ l _ (by have := hlen.out; have := hkn.out; omega), val_take_all _ r _ (by have := hlen'.out; have := hkn.out; omega)] at h1
          exact less_end HOD.out HOL.out hvv.out h1
        rw [← e]
        exact ht.kp ((Kp.refl _).setCell (a := ⟨w.heap.size + 1 + 1, 0, none⟩) hF (by decide) _)
      · have := hsl.out; have := HOL.out; have := hkn.out; omega
      · exact ((hbw.trans (hbl.mono (by omega))).trans (hb2.mono (by omega))).setCell (by simp; omega) _

/-- The difference. -/
theorem rless_spec {w : World} {s t : Sl} {x y : Nat} (h : RefS w s x) (h' : RefS w t y) (hn : s.n ≤ 8000000000000) (hxy : y ≤ x) :
    Calls Tryz.prog 118 #[.agg #[.slice s.ao s.n s.c], .agg #[.slice t.ao t.n t.c]] w fun e w' =>
      ∃ u : Sl, e = .returned (.agg #[.slice u.ao u.n u.c]) ∧ RefS w' u (x - y) ∧ u.n ≤ s.n ∧ Below w.heap.size w w' := by
  have hts := h'.n_le h hxy
  obtain ⟨l, h1, h2, h3, h4⟩ := h
  obtain ⟨r, g1, g2, g3, g4⟩ := h'
  subst h4
  subst g4
  exact rless_walk s.ao t.ao s.n t.n s.c t.c l r w h1 g1 h2 g2 hn hts hxy

def RAddRel (w : World) (n m : Nat) (l r : List Nat) (W : World) (dv cy iv : Value) (wr : World) : Prop := ∃ (k : Nat) (o : List Nat) (q : Nat), k ≤ max n m + 1 ∧ iv = .int .i64 k ∧ cy = .int .i64 q ∧ q ≤ 1 ∧ Own wr (w.heap.size + 3) 3 .i64 dv o ∧ o.length = k ∧ (∀ d ∈ o, d < 10000) ∧ val 10000 o + 10000 ^ k * q = val 10000 (l.take k) + val 10000 (r.take k) ∧ (max n m < k → q = 0 ∧ Norm o) ∧ Below (w.heap.size + 3) W wr

set_option maxHeartbeats 1600000 in
theorem radd_walk (ao bo : Option Addr) (n m c d : Nat) (l r : List Nat) (w : World) (h : IntsAt w 3 .i64 ⟨ao, n, c⟩ l) (h' : IntsAt w 3 .i64 ⟨bo, m, d⟩ r) (hl : ∀ d ∈ l, d < 10000) (hr : ∀ d ∈ r, d < 10000) (hn : n ≤ 8000000000000) (hm : m ≤ 8000000000000) (nl : Norm l) (nr : Norm r) :
    Calls Tryz.prog 45 #[.agg #[.slice ao n c], .agg #[.slice bo m d]] w fun e w' =>
      ∃ (s : Sl), e = .returned (.agg #[.slice s.ao s.n s.c]) ∧ RefS w' s (val 10000 l + val 10000 r) ∧ s.n ≤ max n m + 1 ∧ Below w.heap.size w w' := by
  have hop : Hid (0 < n → ∃ b off, ao = some ⟨b, off, none⟩ ∧ b < w.heap.size ∧ ∀ i, i < n → w.cell? ⟨b, off + i, none⟩ = some (.int .i64 ((dg l i : Nat) : Int))) := h.open
  have hop' : Hid (0 < m → ∃ b off, bo = some ⟨b, off, none⟩ ∧ b < w.heap.size ∧ ∀ i, i < m → w.cell? ⟨b, off + i, none⟩ = some (.int .i64 ((dg r i : Nat) : Int))) := h'.open
  have hlen : Hid (n = l.length) := h.1
  have hlen' : Hid (m = r.length) := h'.1
  clear h h'
  have hll : Hid (∀ d ∈ l, d < 10000) := hl
  have hrr : Hid (∀ d ∈ r, d < 10000) := hr
  clear hl hr
  have hnl := Lib.hid nl; clear nl
  have hnr := Lib.hid nr; clear nr
  obtain ⟨hE1, hE2, hE3, hz⟩ := ents3 w (.cells #[.slice ao n c] 35) (.cells #[.slice bo m d] 35) (.cells #[.slice none 0 0] 35)
  have hbw : Below w.heap.size w (((w.alloc (.cells #[.slice ao n c] 35)).alloc (.cells #[.slice bo m d] 35)).alloc (.cells #[.slice none 0 0] 35)) := (((Below.refl _ _).alloc (Nat.le_refl _) _).alloc (by simp) _).alloc (by simp; omega) _
  have hWs : w.heap.size + 3 ≤ (((w.alloc (.cells #[.slice ao n c] 35)).alloc (.cells #[.slice bo m d] 35)).alloc (.cells #[.slice none 0 0] 35)).heap.size := Nat.le_of_eq hz.symm
  clear hz
  generalize hW : (((w.alloc (.cells #[.slice ao n c] 35)).alloc (.cells #[.slice bo m d] 35)).alloc (.cells #[.slice none 0 0] 35)) = W at hE1 hE2 hE3 hbw hWs
  have HW := Lib.hid hW; clear hW
  have hinit : RAddRel w n m l r W (.slice none 0 0) (.int .i64 0) (.int .i64 0) W := ⟨0, [], 0, Nat.zero_le _, rfl, rfl, by omega, Own.nil _ _ _ _, rfl, by simp, by simp [val], fun h => absurd h (by omega), Below.refl _ _⟩
  go_enter Tryz.func45, Tryz.ntmps45
  go_wp2
  rw [HW.out]
  go_loopw [5, 6, 7] (fun dv cy iv wr => RAddRel w n m l r W dv cy iv wr) (fun _ _ iv _ => max n m + 1 - (intOf iv).toNat)
  case atStart => exact hinit
  case round =>
    clear hinit
    obtain ⟨k, o, q, hk, rfl, rfl, hq, hown, hol, hod, hval, hfin, hbl⟩ := hrel
    have HOL := Lib.hid hol; clear hol
    have HOD := Lib.hid hod; clear hod
    have HV := Lib.hid hval; clear hval
    have hws : w.heap.size + 3 ≤ wr.heap.size := Nat.le_trans hWs hbl.size
    have hA := ent_cell (ent_below hbl (by omega) hE1) 0
    have hB := ent_cell (ent_below hbl (by omega) hE2) 0
    have hl1 : (o.length + 1) * 8 ≤ 140737488355328 := by have := HOL.out; omega
    have hl2 : o.length + 1 ≤ maxLen := by have := HOL.out; unfold maxLen; omega
    have HF := Lib.hid hfin; clear hfin
    have hkN : Hid (max n m < k → q = 0) := fun h => (HF.out h).1
    by_cases hlt : k < n
    · obtain ⟨b, off, rfl, hbw0, hcell⟩ := hop.out (by omega)
      have hck : wr.cell? ⟨b, off + k, none⟩ = some (.int .i64 ((dg l k : Nat) : Int)) := ((hbl.cell (p := ⟨b, off + k, none⟩) (by simp; omega)).trans (hbw.cell (p := ⟨b, off + k, none⟩) hbw0)).trans (hcell k hlt)
      clear hcell
      have hx : dg l k < 10000 := dg_lt hll.out (by omega) k
      by_cases hltm : k < m
      · obtain ⟨b', off', rfl, hbw0', hcell'⟩ := hop'.out (by omega)
        have hck' : wr.cell? ⟨b', off' + k, none⟩ = some (.int .i64 ((dg r k : Nat) : Int)) := ((hbl.cell (p := ⟨b', off' + k, none⟩) (by simp; omega)).trans (hbw.cell (p := ⟨b', off' + k, none⟩) hbw0')).trans (hcell' k hltm)
        clear hcell'
        have hy : dg r k < 10000 := dg_lt hrr.out (by omega) k
        have hstep := Lib.hid (add_step (B := 10000) (l := l) (r := r) HOL.out (rfl : dg l k = dg l k) (rfl : dg r k = dg r k) rfl HV.out)
        generalize dg l k = x at *
        generalize dg r k = y at *
        go_wp2_with (at_builtin; refine wpList_push rowInt _ rfl _ _ rfl (w.heap.size + 3) u5 o _ ((q + x + y) % 10000) rfl rfl hown (by first | rfl | omega) hl1 hl2 hws ?_; intro v' w' hown' hb')
        go_wp2
        go_roundw
        case rel => exact ⟨k + 1, o ++ [(q + x + y) % 10000], (q + x + y) / 10000, by omega, by go_num, by first | rfl | go_num, by omega, hown', by simp [HOL.out], snoc_lt HOD.out (by omega), hstep.out, fun h => absurd h (by omega), hbl.trans hb'⟩
        case measure => simp [intOf]; omega
      · have hstep := Lib.hid (add_step (B := 10000) (l := l) (r := r) (y := 0) HOL.out (rfl : dg l k = dg l k) (dg_big (by have := hlen'.out; omega)) rfl HV.out)
        generalize dg l k = x at *
        go_wp2_with (at_builtin; refine wpList_push rowInt _ rfl _ _ rfl (w.heap.size + 3) u5 o _ ((q + x + 0) % 10000) rfl rfl hown (by first | rfl | omega) hl1 hl2 hws ?_; intro v' w' hown' hb')
        go_wp2
        go_roundw
        case rel => exact ⟨k + 1, o ++ [(q + x + 0) % 10000], (q + x + 0) / 10000, by omega, by go_num, by first | rfl | go_num, by omega, hown', by simp [HOL.out], snoc_lt HOD.out (by omega), hstep.out, fun h => absurd h (by omega), hbl.trans hb'⟩
        case measure => simp [intOf]; omega
    · by_cases hltm : k < m
      · obtain ⟨b', off', rfl, hbw0', hcell'⟩ := hop'.out (by omega)
        have hck' : wr.cell? ⟨b', off' + k, none⟩ = some (.int .i64 ((dg r k : Nat) : Int)) := ((hbl.cell (p := ⟨b', off' + k, none⟩) (by simp; omega)).trans (hbw.cell (p := ⟨b', off' + k, none⟩) hbw0')).trans (hcell' k hltm)
        clear hcell'
        have hy : dg r k < 10000 := dg_lt hrr.out (by omega) k
        have hstep := Lib.hid (add_step (B := 10000) (l := l) (r := r) (x := 0) HOL.out (dg_big (by have := hlen.out; omega)) (rfl : dg r k = dg r k) rfl HV.out)
        generalize dg r k = y at *
        go_wp2_with (at_builtin; refine wpList_push rowInt _ rfl _ _ rfl (w.heap.size + 3) u5 o _ ((q + 0 + y) % 10000) rfl rfl hown (by first | rfl | omega) hl1 hl2 hws ?_; intro v' w' hown' hb')
        go_wp2
        go_roundw
        case rel => exact ⟨k + 1, o ++ [(q + 0 + y) % 10000], (q + 0 + y) / 10000, by omega, by go_num, by first | rfl | go_num, by omega, hown', by simp [HOL.out], snoc_lt HOD.out (by omega), hstep.out, fun h => absurd h (by omega), hbl.trans hb'⟩
        case measure => simp [intOf]; omega
      · by_cases hq1 : 0 < q
        · have hkN' : k = max n m := by
            have := hkN.out
            omega
          have HkN := Lib.hid hkN'; clear hkN'
          have hkle : k ≤ max n m := by have := HkN.out; omega
          have hstep := Lib.hid (add_step (B := 10000) (l := l) (r := r) (x := 0) (y := 0) HOL.out (dg_big (by have := hlen.out; omega)) (dg_big (by have := hlen'.out; omega)) rfl HV.out)
          go_wp2_with (at_builtin; refine wpList_push rowInt _ rfl _ _ rfl (w.heap.size + 3) u5 o _ ((q + 0 + 0) % 10000) rfl rfl hown (by first | rfl | omega) hl1 hl2 hws ?_; intro v' w' hown' hb')
          go_wp2
          go_roundw
          case rel => exact ⟨k + 1, o ++ [(q + 0 + 0) % 10000], (q + 0 + 0) / 10000, by omega, by go_num, by first | rfl | go_num, by omega, hown', by simp [HOL.out], snoc_lt HOD.out (by omega), hstep.out, fun _ => ⟨by omega, norm_snoc (by omega)⟩, hbl.trans hb'⟩
          case measure => simp [intOf]; omega
        · have hq0 : q = 0 := by omega
          obtain ⟨s, rfl, hs⟩ := hown.ints
          have hE3' := ent_below hbl (by omega) hE3
          have hsl := Lib.hid hs.1
          have hR := ent_cell hE3' 0
          have hRf := ent_frozen hE3' 0
          have hval : val 10000 o = val 10000 l + val 10000 r := by
            have h1 := HV.out
            rw [hq0, val_take_all _ l _ (by have := hlen.out; omega), val_take_all _ r _ (by have := hlen'.out; omega)] at h1
            simpa using h1
          have hnorm : Norm o := by
            by_cases hN : max n m < k
            · exact (HF.out hN).2
            · by_cases hk0 : k = 0
              · have : o = [] := List.eq_nil_of_length_eq_zero (by rw [HOL.out]; exact hk0)
                rw [this]; exact norm_nil
              · refine norm_of_val HOD.out ?_ (by rw [HOL.out]; omega)
                rw [HOL.out, hval]
                by_cases hnm : n = k
                · have := hnl.out.pos 10000 (l := l) (by intro e; have := hlen.out; rw [e] at this; simp at this; omega)
                  rw [← hlen.out, hnm] at this
                  omega
                · have hmk : m = k := by omega
                  have := hnr.out.pos 10000 (l := r) (by intro e; have := hlen'.out; rw [e] at this; simp at this; omega)
                  rw [← hlen'.out, hmk] at this
                  omega
          have HVAL := Lib.hid hval; clear hval
          have hq1I : decide ((0 : Int) < (q : Int)) = false := by simp; omega
          clear hq0
          go_wp2
          refine bodyPost_ret (v := .agg #[.slice s.ao s.n s.c]) (by simp [results, Tryz.results45, go_sem, hR]) rfl ⟨s, rfl, ⟨o, hs.kp (.inr (.inl rfl)) ((Kp.refl _).setCell (a := ⟨w.heap.size + 1 + 1, 0, none⟩) hE3' (by decide) _), HOD.out, hnorm, HVAL.out⟩, ?_, ?_⟩
          · have := hsl.out; have := HOL.out; omega
          · exact (hbw.trans (hbl.mono (by omega))).setCell (by simp; omega) _

/-- The sum. -/
theorem radd_spec {w : World} {s t : Sl} {x y : Nat} (h : RefS w s x) (h' : RefS w t y) (hn : s.n ≤ 8000000000000) (hm : t.n ≤ 8000000000000) :
    Calls Tryz.prog 45 #[.agg #[.slice s.ao s.n s.c], .agg #[.slice t.ao t.n t.c]] w fun e w' =>
      ∃ u : Sl, e = .returned (.agg #[.slice u.ao u.n u.c]) ∧ RefS w' u (x + y) ∧ u.n ≤ max s.n t.n + 1 ∧ Below w.heap.size w w' := by
  obtain ⟨l, h1, h2, h3, h4⟩ := h
  obtain ⟨r, g1, g2, g3, g4⟩ := h'
  subst h4
  subst g4
  exact radd_walk s.ao t.ao s.n t.n s.c t.c l r w h1 g1 h2 g2 hn hm h3 g3

end Go.Proofs.YtlpfkbkpnljieaaGreat

namespace Go.Proofs.YtlpfkbkpnljieaaGreat
open Go.RowKit

theorem dmul_lim (x y : Nat) (hx : x < 10000) (hy : y < 10000) : 0 ≤ (x : Int) * y ∧ (x : Int) * y ≤ 99980001 := by
  have h : x * y ≤ 9999 * 9999 := Nat.mul_le_mul (by omega) (by omega)
  rw [← Int.natCast_mul]
  omega

/-- A carry, one place up. -/
theorem carry_step {B k q z : Nat} {p : List Nat} (hk : k < p.length) (hz : dg p k = z) : val B (p.set k ((q + z) % B)) + B ^ (k + 1) * ((q + z) / B) = val B p + B ^ k * q := by
  have h1 := val_set B p k ((q + z) % B) hk
  rw [hz] at h1
  have h2 := Nat.div_add_mod (q + z) B
  generalize (q + z) / B = u at *
  generalize (q + z) % B = v at *
  rw [Nat.pow_succ]
  have h3 : B ^ k * (B * u + v) = B ^ k * (q + z) := by rw [h2]
  have h4 : val B (p.set k v) + B ^ k * z + B ^ k * (B * u) = val B p + B ^ k * (q + z) := by rw [← h3, h1]; grind
  grind

theorem rmul_bound {n m i : Nat} {l r : List Nat} (hn : n = l.length) (hm : m = r.length) (hl : ∀ d ∈ l, d < 10000) (hr : ∀ d ∈ r, d < 10000) (hi : i < n) : val 10000 (l.take (i + 1)) * val 10000 r < 10000 ^ (n + m) := by
  have h1 := val_lt 10000 (l.take (i + 1)) (fun d hd => hl d (List.mem_of_mem_take hd))
  have h2 := val_lt 10000 r hr
  have h3 : (l.take (i + 1)).length ≤ n := by simp; omega
  have h4 : 10000 ^ (l.take (i + 1)).length ≤ 10000 ^ n := Nat.pow_le_pow_right (by omega) h3
  rw [← hm] at h2
  rw [Nat.pow_add]
  have h5 : val 10000 (l.take (i + 1)) * val 10000 r ≤ val 10000 (l.take (i + 1)) * 10000 ^ m := Nat.mul_le_mul_left _ (Nat.le_of_lt h2)
  have h6 : val 10000 (l.take (i + 1)) * 10000 ^ m < 10000 ^ n * 10000 ^ m := Nat.mul_lt_mul_of_pos_right (by omega) (Nat.pow_pos (by omega))
  omega

/-- The rows so far. -/
def RMulRel (w : World) (g n m : Nat) (l r : List Nat) (W : World) (iv : Value) (wr : World) : Prop := ∃ (i : Nat) (p : List Nat), i ≤ n ∧ iv = .int .i64 i ∧ Own wr (w.heap.size + 3) 3 .i64 (.slice (some ⟨g, 0, none⟩) (n + m + 1) (n + m + 1)) p ∧
  p.length = n + m + 1 ∧ (∀ d ∈ p, d < 10000) ∧ val 10000 p = val 10000 (l.take i) * val 10000 r ∧ Below (w.heap.size + 3) W wr
/-- One row. -/
def RMulIn (w : World) (g n m i x : Nat) (l r : List Nat) (W : World) (cy kv : Value) (wr : World) : Prop := ∃ (k q : Nat) (p : List Nat), k ≤ m ∧ kv = .int .i64 k ∧ cy = .int .i64 q ∧ q < 10000 ∧ Own wr (w.heap.size + 3) 3 .i64 (.slice (some ⟨g, 0, none⟩) (n + m + 1) (n + m + 1)) p ∧
  p.length = n + m + 1 ∧ (∀ d ∈ p, d < 10000) ∧ val 10000 p + 10000 ^ (i + k) * q = val 10000 (l.take i) * val 10000 r + 10000 ^ i * x * val 10000 (r.take k) ∧ Below (w.heap.size + 3) W wr
/-- The carry behind a row. -/
def RMulCy (w : World) (g n m C : Nat) (W : World) (cy kv : Value) (wr : World) : Prop := ∃ (k q : Nat) (p : List Nat), k ≤ n + m ∧ kv = .int .i64 k ∧ cy = .int .i64 q ∧ q < 10000 ∧ Own wr (w.heap.size + 3) 3 .i64 (.slice (some ⟨g, 0, none⟩) (n + m + 1) (n + m + 1)) p ∧
  p.length = n + m + 1 ∧ (∀ d ∈ p, d < 10000) ∧ val 10000 p + 10000 ^ k * q = C ∧ Below (w.heap.size + 3) W wr

set_option maxHeartbeats 3200000 in
theorem rmul_walk (ao bo : Option Addr) (n m c d : Nat) (l r : List Nat) (w : World) (h : IntsAt w 3 .i64 ⟨ao, n, c⟩ l) (h' : IntsAt w 3 .i64 ⟨bo, m, d⟩ r) (hl : ∀ d ∈ l, d < 10000) (hr : ∀ d ∈ r, d < 10000) (hn : n ≤ 8000000000000) (hm : m ≤ 8000000000000) :
    Calls Tryz.prog 104 #[.agg #[.slice ao n c], .agg #[.slice bo m d]] w fun e w' =>
      ∃ (s : Sl), e = .returned (.agg #[.slice s.ao s.n s.c]) ∧ RefS w' s (val 10000 l * val 10000 r) ∧ Below w.heap.size w w' := by
  have hop : Hid (0 < n → ∃ b off, ao = some ⟨b, off, none⟩ ∧ b < w.heap.size ∧ ∀ i, i < n → w.cell? ⟨b, off + i, none⟩ = some (.int .i64 ((dg l i : Nat) : Int))) := h.open
  have hop' : Hid (0 < m → ∃ b off, bo = some ⟨b, off, none⟩ ∧ b < w.heap.size ∧ ∀ i, i < m → w.cell? ⟨b, off + i, none⟩ = some (.int .i64 ((dg r i : Nat) : Int))) := h'.open
  have hlen : Hid (n = l.length) := h.1
  have hlen' : Hid (m = r.length) := h'.1
  clear h h'
  have hll : Hid (∀ d ∈ l, d < 10000) := hl
  have hrr : Hid (∀ d ∈ r, d < 10000) := hr
  clear hl hr
  obtain ⟨hE1, hE2, hE3, hz⟩ := ents3 w (.cells #[.slice ao n c] 35) (.cells #[.slice bo m d] 35) (.cells #[.slice none 0 0] 35)
  have hbw : Below w.heap.size w (((w.alloc (.cells #[.slice ao n c] 35)).alloc (.cells #[.slice bo m d] 35)).alloc (.cells #[.slice none 0 0] 35)) := (((Below.refl _ _).alloc (Nat.le_refl _) _).alloc (by simp) _).alloc (by simp; omega) _
  go_enter Tryz.func104, Tryz.ntmps104
  go_wp2_with (at_make; refine wpList_mkfull rowInt _ rfl _ _ rfl (w.heap.size + 3) _ _ _ _ (n + m + 1) rfl rfl (by omega) (by omega) (by omega) (by unfold maxLen; omega) (by simp) ?_; intro w1 ho hb hsz)
  have hbw1 : Below w.heap.size w w1 := hbw.trans (hb.mono (by omega))
  have F1 := ent_below hb (by omega) hE1
  have F2 := ent_below hb (by omega) hE2
  have F3 := ent_below hb (by omega) hE3
  have hw1 : w.heap.size + 3 ≤ w1.heap.size := by have := hb.size; simp at this; omega
  clear hb hbw hz hE1 hE2 hE3
  replace ho : Own w1 (w.heap.size + 3) 3 .i64 (.slice (some ⟨w.heap.size + 1 + 1 + 1, 0, none⟩) (n + m + 1) (n + m + 1)) (List.replicate (n + m + 1) 0) := by simpa using ho
  rw [show w.heap.size + 1 + 1 + 1 = w.heap.size + 3 from rfl] at ho ⊢
  have hinit : RMulRel w (w.heap.size + 3) n m l r w1 (.int .i64 0) w1 := ⟨0, _, Nat.zero_le _, rfl, ho, by simp, by simp, by simp [val, val_replicate], Below.refl _ _⟩
  clear ho
  go_loopw [6] (fun iv wr => RMulRel w (w.heap.size + 3) n m l r w1 iv wr) (fun iv _ => n - (intOf iv).toNat)
  case atStart => exact hinit
  case round =>
    clear hinit
    obtain ⟨i, p, hi, rfl, hown, hol, hod, hval, hbl⟩ := hrel
    have HOL := Lib.hid hol; clear hol
    have HOD := Lib.hid hod; clear hod
    have HV := Lib.hid hval; clear hval
    have hA := ent_cell (ent_below hbl (by omega) F1) 0
    have hB := ent_cell (ent_below hbl (by omega) F2) 0
    by_cases hlt : i < n
    · obtain ⟨b, off, rfl, hbw0, hcell⟩ := hop.out (by omega)
      have hx : dg l i < 10000 := dg_lt hll.out (by omega) i
      have hcki : Hid (w.cell? ⟨b, off + i, none⟩ = some (.int .i64 ((dg l i : Nat) : Int))) := hcell i hlt
      clear hcell
      have HB := Lib.hid (rmul_bound hlen.out hlen'.out hll.out hrr.out hlt)
      have HT := Lib.hid (val_take_next 10000 l i)
      generalize dg l i = x at *
      have hin : RMulIn w (w.heap.size + 3) n m i x l r w1 (.int .i64 0) (.int .i64 0) wr := ⟨0, 0, p, Nat.zero_le _, rfl, rfl, by omega, hown, HOL.out, HOD.out, by simp [val]; exact HV.out, hbl⟩
      obtain ⟨wo, hwo⟩ : ∃ wo : World, wo = wr := ⟨_, rfl⟩
      subst hwo
      clear hown HOL HOD HV
      go_wp2
      go_loopw [7, 8] (fun cy kv wr => RMulIn w (w.heap.size + 3) n m i x l r w1 cy kv wr) (fun _ kv _ => m - (intOf kv).toNat)
      case atStart => exact hin
      case round =>
        clear hin hA hB hbl
        obtain ⟨k, q, p, hk, rfl, rfl, hq, hown, hol, hod, hval, hbl⟩ := hrel
        have hws := hbl.size
        have HOL := Lib.hid hol; clear hol
        have HOD := Lib.hid hod; clear hod
        have HV := Lib.hid hval; clear hval
        have hA := ent_cell (ent_below hbl (show w.heap.size < w.heap.size + 3 by omega) F1) 0
        have hB := ent_cell (ent_below hbl (show w.heap.size + 1 < w.heap.size + 3 by omega) F2) 0
        by_cases hlt2 : k < m
        · have hck : wr.cell? ⟨b, off + i, none⟩ = some (.int .i64 (x : Int)) := ((hbl.cell (p := ⟨b, off + i, none⟩) (by simp; omega)).trans (hbw1.cell (p := ⟨b, off + i, none⟩) hbw0)).trans hcki.out
          obtain ⟨b', off', rfl, hbw0', hcell'⟩ := hop'.out (by omega)
          have hck' : wr.cell? ⟨b', off' + k, none⟩ = some (.int .i64 ((dg r k : Nat) : Int)) := ((hbl.cell (p := ⟨b', off' + k, none⟩) (by simp; omega)).trans (hbw1.cell (p := ⟨b', off' + k, none⟩) hbw0')).trans (hcell' k hlt2)
          clear hcell'
          have hy : dg r k < 10000 := dg_lt hrr.out (by omega) k
          have hz : dg p (i + k) < 10000 := dg_lt HOD.out (by omega) (i + k)
          obtain ⟨hoc, hof, _, _⟩ := hown.slot (i + k) (by have := HOL.out; omega)
          have hstep := Lib.hid (mul_step (B := 10000) (by have := HOL.out; omega) rfl rfl HV.out)
          generalize dg r k = y at *
          generalize dg p (i + k) = z at *
          obtain ⟨hx0, hxm⟩ := dmul_lim x y hx hy
          have hu1 : (q + (x * y + z)) / 10000 < 10000 ∧ q + (x * y + z) < 100000000 := by
            have : x * y ≤ 9999 * 9999 := Nat.mul_le_mul (by omega) (by omega)
            omega
          obtain ⟨N, hN⟩ : ∃ N : Nat, N = q + (x * y + z) := ⟨_, rfl⟩
          rw [← hN] at hstep hu1
          have hNI : (q : Int) + z + (x : Int) * y = (N : Int) := by rw [hN]; push_cast; omega
          have HN := Lib.hid hN; clear hN
          have hu2 := hu1.2
          have hu3 := Lib.hid hu1.1
          clear hu1
          have hi0 : (0 : Int) ≤ (i : Int) := by omega
          have hi1 : (i : Int) < (n : Int) := by omega
          have hk0 : (0 : Int) ≤ (k : Int) := by omega
          have hk1 : (k : Int) < (m : Int) := by omega
          have hik0 : (0 : Int) ≤ (i : Int) + k := by omega
          have hik1 : (i : Int) + k < (n : Int) + m + 1 := by omega
          have hikn : ((i : Int) + k).toNat = i + k := by omega
          have hikw : IntKind.i64.wrap ((i : Int) + k) = (i : Int) + k := IntWalk.i64_in _ (by omega)
          go_upto_region 9 with fail
          go_quiet (fail)
          have hown2 : Own (wr.drewN nq) (w.heap.size + 3) 3 .i64 (.slice (some ⟨w.heap.size + 3, 0, none⟩) (n + m + 1) (n + m + 1)) p := hown
          have hbl2 := below_drewN hbl nq
          clear hoc hof hck hck' hA hB hbl hown
          generalize wr.drewN nq = wq at *
          obtain ⟨hoc, hof, _, _⟩ := hown2.slot (i + k) (by have := HOL.out; omega)
          have hst := hown2.store (i + k) (N % 10000)
          go_wp2
          go_roundw
          case rel => exact ⟨k + 1, N / 10000, _, by omega, by go_num, by go_num, hu3.out, hst.1, by rw [List.length_set]; exact HOL.out, set_lt HOD.out (Nat.mod_lt _ (by omega)), hstep.out, hbl2.trans hst.2⟩
          case measure => simp [intOf]; omega
        · have hkm : k = m := by omega
          have HC : Hid (val 10000 p + 10000 ^ (i + m) * q = val 10000 (l.take (i + 1)) * val 10000 r) := by
            have h1 := HV.out
            rw [hkm, val_take_all _ r _ (by have := hlen'.out; omega)] at h1
            show _ = _
            rw [h1, HT.out]
            grind
          have hkI : decide ((k : Int) < (m : Int)) = false := by simp; omega
          clear hkm HV hcki
          generalize hC : val 10000 (l.take (i + 1)) * val 10000 r = C at *
          have HCC := Lib.hid hC; clear hC
          have hcy : RMulCy w (w.heap.size + 3) n m C w1 (.int .i64 q) (.int .i64 ((i : Int) + m)) wr := ⟨i + m, q, p, by omega, by simp, rfl, hq, hown, HOL.out, HOD.out, HC.out, hbl⟩
          clear hown HOL HOD HC
          obtain ⟨wo, hwo⟩ : ∃ wo : World, wo = wr := ⟨_, rfl⟩
          subst hwo
          go_wp2
          go_loopw [7, 9] (fun cy kv wr => RMulCy w (w.heap.size + 3) n m C w1 cy kv wr) (fun _ kv _ => n + m + 1 - (intOf kv).toNat)
          case atStart => exact hcy
          case round =>
            clear hcy hA hB hbl
            obtain ⟨k, q, p, hk, rfl, rfl, hq, hown, hol, hod, hval, hbl⟩ := hrel
            have HOL := Lib.hid hol; clear hol
            have HOD := Lib.hid hod; clear hod
            have HV := Lib.hid hval; clear hval
            by_cases hq0 : 0 < q
            · have hkn : k < n + m := by
                have h1 : 10000 ^ k * 1 ≤ 10000 ^ k * q := Nat.mul_le_mul_left _ hq0
                have h2 : 10000 ^ k < 10000 ^ (n + m) := by have := HV.out; have := HB.out; omega
                exact (Nat.pow_lt_pow_iff_right (by omega)).1 h2
              have hz : dg p k < 10000 := dg_lt HOD.out (by omega) k
              obtain ⟨hoc, hof, _, _⟩ := hown.slot k (by have := HOL.out; omega)
              have hstep := Lib.hid (carry_step (B := 10000) (k := k) (q := q) (p := p) (by have := HOL.out; omega) rfl)
              generalize dg p k = z at *
              have hst := hown.store k ((q + z) % 10000)
              have hq' : (q + z) / 10000 < 10000 := by omega
              go_wp2
              go_roundw
              case rel => exact ⟨k + 1, (q + z) / 10000, _, by omega, by go_num, by go_num, hq', hst.1, by rw [List.length_set]; exact HOL.out, set_lt HOD.out (Nat.mod_lt _ (by omega)), hstep.out.trans HV.out, hbl.trans hst.2⟩
              case measure => simp [intOf]; omega
            · have hq00 : q = 0 := by omega
              have hend : val 10000 p = C := by have := HV.out; rw [hq00] at this; simpa using this
              have HEND := Lib.hid (hend.trans HCC.out.symm)
              have hq0I : decide ((0 : Int) < (q : Int)) = false := by simp; omega
              clear hq00 hend
              go_wp2
              go_roundw
              case rel => exact ⟨i + 1, p, by omega, by go_num, hown, HOL.out, HOD.out, HEND.out, hbl⟩
              case measure => simp [intOf]; omega
    · have hkn : Hid (val 10000 p = val 10000 l * val 10000 r) := by
        show _ = _
        rw [HV.out, val_take_all _ _ _ (by have := hlen.out; omega)]
      have hsi := hown.intsAt
      have hF3 := ent_below hbl (by omega) F3
      have hws := hbl.size
      go_wp2_with (go_at_call 84; refine (rcut_spec hsi HOD.out).mono ?_; rintro e w2 ⟨t, rfl, ht, htn, hb2⟩; have hE3' := ent_up hb2 hF3; have hR := ent_cell hE3' 0; have hRf := ent_frozen hE3' 0)
      rw [hkn.out] at ht
      refine bodyPost_ret (v := .agg #[.slice t.ao t.n t.c]) (by simp [results, Tryz.results104, go_sem, hR]) rfl ⟨t, rfl, ht.kp ((Kp.refl _).setCell (a := ⟨w.heap.size + 1 + 1, 0, none⟩) hE3' (by decide) _), ?_⟩
      exact ((hbw1.trans (hbl.mono (by omega))).trans (hb2.mono (by omega))).setCell (by simp; omega) _

theorem RefS.n_bound {w : World} {s : Sl} {x k : Nat} (h : RefS w s x) (hx : x < 10000 ^ k) : s.n ≤ k := by
  obtain ⟨l, h1, h2, h3, h4⟩ := h
  rw [h1.1]
  exact h3.len_of_lt (B := 10000) (by omega) (by rw [h4]; exact hx)
theorem RefS.lt_pow {w : World} {s : Sl} {x : Nat} (h : RefS w s x) : x < 10000 ^ s.n := by
  obtain ⟨l, h1, h2, h3, h4⟩ := h
  rw [← h4, h1.1]
  exact val_lt _ _ h2

/-- The product. -/
theorem rmul_spec {w : World} {s t : Sl} {x y : Nat} (h : RefS w s x) (h' : RefS w t y) (hn : s.n ≤ 8000000000000) (hm : t.n ≤ 8000000000000) :
    Calls Tryz.prog 104 #[.agg #[.slice s.ao s.n s.c], .agg #[.slice t.ao t.n t.c]] w fun e w' =>
      ∃ u : Sl, e = .returned (.agg #[.slice u.ao u.n u.c]) ∧ RefS w' u (x * y) ∧ u.n ≤ s.n + t.n ∧ Below w.heap.size w w' := by
  have hb : x * y < 10000 ^ (s.n + t.n) := by
    rw [Nat.pow_add]
    have h1 := h.lt_pow
    have h2 := h'.lt_pow
    have h3 : x * y ≤ x * 10000 ^ t.n := Nat.mul_le_mul_left _ (Nat.le_of_lt h2)
    have h4 : x * 10000 ^ t.n < 10000 ^ s.n * 10000 ^ t.n := Nat.mul_lt_mul_of_pos_right h1 (Nat.pow_pos (by omega))
    omega
  obtain ⟨l, h1, h2, h3, h4⟩ := h
  obtain ⟨r, g1, g2, g3, g4⟩ := h'
  subst h4
  subst g4
  refine (rmul_walk s.ao t.ao s.n t.n s.c t.c l r w h1 g1 h2 g2 hn hm).mono ?_
  rintro e w' ⟨u, rfl, hu, hbl⟩
  exact ⟨u, rfl, hu, hu.n_bound hb, hbl⟩

end Go.Proofs.YtlpfkbkpnljieaaGreat

namespace Go.Proofs.YtlpfkbkpnljieaaGreat
open Go.RowKit

theorem rof_v (k : Nat) (v : Int) (w : World) (hv : v = (k : Int)) (hk : k < 18446744073709551616) :
    Calls Tryz.prog 46 #[.int .u64 v] w fun e w' =>
      ∃ u : Sl, e = .returned (.agg #[.slice u.ao u.n u.c]) ∧ RefS w' u k ∧ u.n ≤ 5 ∧ Below w.heap.size w w' := by
  subst hv
  exact rof_spec k w hk

theorem box_set' {W : World} {k : Nat} {v0 : Value} {T : TypeId} (h : W.heap[k]? = some (.cells #[v0] T (0, 0))) (v : Value) : (W.setCell ⟨k, 0, none⟩ v).heap[k]? = some (.cells #[v] T (0, 0)) := ent_set h v
theorem box_cell' {w : World} {b : Nat} {v : Value} {T : TypeId} (h : w.heap[b]? = some (.cells #[v] T (0, 0))) : w.cell? ⟨b, 0, none⟩ = some v := ent_cell h 0

set_option maxHeartbeats 800000 in
theorem rsmall_spec {w : World} {s : Sl} {x : Nat} (k : Nat) (v : Int) (hv : v = (k : Int)) (hk : k < 1000000) (h : RefS w s x) (hn : s.n ≤ 8000000000000) :
    Calls Tryz.prog 132 #[.agg #[.slice s.ao s.n s.c], .int .i64 v] w fun e w' =>
      ∃ u : Sl, e = .returned (.agg #[.slice u.ao u.n u.c]) ∧ RefS w' u (x * k) ∧ u.n ≤ s.n + 5 ∧ Below w.heap.size w w' := by
  subst hv
  obtain ⟨hE1, hE2, _⟩ := ents2 w (.cells #[.slice s.ao s.n s.c] 35) (.cells #[.slice none 0 0] 35)
  have hbx : Below w.heap.size w ((w.alloc (.cells #[.slice s.ao s.n s.c] 35)).alloc (.cells #[.slice none 0 0] 35)) := ((Below.refl _ _).alloc (Nat.le_refl _) _).alloc (by simp) _
  have hx := h.up hbx
  have hA := ent_cell hE1 0
  have hwk : IntKind.u64.wrap (k : Int) = (k : Int) := IntWalk.u64_in _ (by omega)
  have HWK := Lib.hid hwk; clear hwk
  go_enter Tryz.func132, Tryz.ntmps132
  go_wp2
  generalize ((w.alloc (.cells #[.slice s.ao s.n s.c] 35)).alloc (.cells #[.slice none 0 0] 35)) = W at *
  have hx0 : RefS W.drew s x := hx
  have hE1d : W.drew.heap[w.heap.size]? = some (.cells #[.slice s.ao s.n s.c] 35 (0, 0)) := hE1
  have hE2d : W.drew.heap[w.heap.size + 1]? = some (.cells #[.slice none 0 0] 35 (0, 0)) := hE2
  have hbd := hbx.drew
  clear hx hE1 hE2 hbx
  go_region_with (first
    | (go_at_call 46; refine (rof_v k _ _ HWK.out (by omega)).mono ?_; rintro e w1 ⟨o, rfl, ho, hon, hb1⟩; have hx1 := hx0.up hb1; have hA1 := ent_cell (ent_up hb1 hE1d) 0; have hE21 := ent_up hb1 hE2d)
    | (go_at_call 104; refine (rmul_spec hx1 ho (by omega) (by omega)).mono ?_; rintro e w2 ⟨u, rfl, hu, hun, hb2⟩; have hF := ent_up hb2 hE21; have hc := ent_cell hF 0; have hcf := ent_frozen hF 0))
  all_goals go_wp2
  all_goals (
    have hb12 := (hbd.trans (hb1.mono hbd.size)).trans (hb2.mono (Nat.le_trans hbd.size hb1.size))
    have hq := box_cell' (box_set' hF (.slice u.ao u.n u.c))
    refine bodyPost_ret (v := .agg #[.slice u.ao u.n u.c]) (by simp [results, Tryz.results132, go_sem, hq]) rfl ⟨u, rfl, hu.kp ((Kp.refl _).setCell (a := ⟨w.heap.size + 1, 0, none⟩) hF (by decide) _), by omega, hb12.setCell (by simp) _⟩)

end Go.Proofs.YtlpfkbkpnljieaaGreat

namespace Go.Proofs.YtlpfkbkpnljieaaGreat
open Go.RowKit

theorem IntsAt.set_far {w : World} {T : TypeId} {k : IntKind} {s : Sl} {l : List Nat} (h : IntsAt w T k s l) {a : Addr} (hf : 0 < s.n → ∀ b off, s.ao = some ⟨b, off, none⟩ → b ≠ a.block) (v : Value) : IntsAt (w.setCell a v) T k s l := by
  obtain ⟨h1, h2, h3, h4⟩ := h
  refine ⟨h1, h2, h3, fun hp => ?_⟩
  obtain ⟨b, off, cur, ha, hh, hr⟩ := h4 hp
  exact ⟨b, off, cur, ha, by rw [Below.heap_setCell _ _ _ _ (hf hp b off ha)]; exact hh, hr⟩

/-- cut, and where what it answers lies. -/
theorem rcut_at {w : World} {s : Sl} {l : List Nat} (h : IntsAt w 3 .i64 s l) (hd : ∀ d ∈ l, d < 10000) :
    Calls Tryz.prog 84 #[.slice s.ao s.n s.c] w fun e w' =>
      ∃ t : Sl, e = .returned (.agg #[.slice t.ao t.n t.c]) ∧ RefS w' t (val 10000 l) ∧ t.n ≤ s.n ∧ t.ao = s.ao ∧ Below w.heap.size w w' := by
  refine (rcut_walk s.ao s.n s.c l w h).mono ?_
  rintro e w' ⟨k, hk, rfl, h0, h1, hb⟩
  have hl := h.1
  have hn := norm_take (l := l) (k := k) (by omega) (fun i a b => h0 i a (by omega)) h1 10000
  exact ⟨⟨s.ao, k, s.c⟩, rfl, ⟨l.take k, (h.cut k s.c hk (by have := h.2.1; omega) (Nat.le_refl _)).up hb, fun d hdm => hd d (List.mem_of_mem_take hdm), hn.1, hn.2⟩, hk, rfl, hb⟩

/-- Div's memory. -/
def RDivSt (w : World) (s t : Sl) (R g : Nat) (o : List Nat) (sr : Sl) (P : Nat) (wr : World) : Prop :=
  wr.heap[w.heap.size]? = some (.cells #[.slice s.ao s.n s.c] 35 (0, 0)) ∧ wr.heap[w.heap.size + 1]? = some (.cells #[.slice t.ao t.n t.c] 35 (0, 0)) ∧
  wr.heap[w.heap.size + 1 + 1]? = some (.cells #[.slice none 0 0] 35 (0, 0)) ∧ wr.heap[w.heap.size + 1 + 1 + 1]? = some (.cells #[.slice none 0 0] 35 (0, 0)) ∧
  wr.heap[R]? = some (.cells #[.slice sr.ao sr.n sr.c] 35 (0, 0)) ∧ RefS wr sr P ∧ Own wr (w.heap.size + 4) 3 .i64 (.slice (some ⟨g, 0, none⟩) s.n s.n) o ∧ Below w.heap.size w wr

theorem RDivSt.up {w : World} {s t : Sl} {R g : Nat} {o : List Nat} {sr : Sl} {P : Nat} {wr w' : World} (h : RDivSt w s t R g o sr P wr) (hb : Below wr.heap.size wr w') : RDivSt w s t R g o sr P w' :=
  ⟨ent_up hb h.1, ent_up hb h.2.1, ent_up hb h.2.2.1, ent_up hb h.2.2.2.1, ent_up hb h.2.2.2.2.1, h.2.2.2.2.2.1.up hb, h.2.2.2.2.2.2.1.below hb (Nat.le_refl _), h.2.2.2.2.2.2.2.trans (hb.mono h.2.2.2.2.2.2.2.size)⟩
theorem RDivSt.drewN {w : World} {s t : Sl} {R g : Nat} {o : List Nat} {sr : Sl} {P : Nat} {wr : World} (h : RDivSt w s t R g o sr P wr) : RDivSt w s t R g o sr P wr.drew :=
  ⟨h.1, h.2.1, h.2.2.1, h.2.2.2.1, h.2.2.2.2.1, h.2.2.2.2.2.1, h.2.2.2.2.2.2.1, h.2.2.2.2.2.2.2.drew⟩
/-- Another rest. -/
theorem RDivSt.rest {w : World} {s t : Sl} {R g : Nat} {o : List Nat} {sr sr' : Sl} {P P' : Nat} {wr : World} (h : RDivSt w s t R g o sr P wr) (h' : RefS wr sr' P') (hR : w.heap.size + 1 + 1 + 1 < R) (hg : g ≠ R) : RDivSt w s t R g o sr' P' (wr.setCell ⟨R, 0, none⟩ (.slice sr'.ao sr'.n sr'.c)) :=
  ⟨ent_set_other h.1 (by simp; omega) _, ent_set_other h.2.1 (by simp; omega) _, ent_set_other h.2.2.1 (by simp; omega) _, ent_set_other h.2.2.2.1 (by simp; omega) _, ent_set h.2.2.2.2.1 _,
    h'.kp ((Kp.refl _).setCell (a := ⟨R, 0, none⟩) h.2.2.2.2.1 (by decide) _), h.2.2.2.2.2.2.1.set_ne (by simpa using hg) _, h.2.2.2.2.2.2.2.setCell (by simp; omega) _⟩
/-- A digit of the quotient. -/
theorem RDivSt.digit {w : World} {s t : Sl} {R g : Nat} {o : List Nat} {sr : Sl} {P : Nat} {wr : World} (h : RDivSt w s t R g o sr P wr) (hg : w.heap.size + 1 + 1 + 1 < g) (hgR : g ≠ R) (hf : 0 < sr.n → ∀ b off, sr.ao = some ⟨b, off, none⟩ → b ≠ g) (j d : Nat) : RDivSt w s t R g (o.set j d) sr P (wr.setCell ⟨g, j, none⟩ (.int .i64 ((d : Nat) : Int))) := by
  obtain ⟨l, g1, g2⟩ := h.2.2.2.2.2.1
  exact ⟨ent_set_other h.1 (by simp; omega) _, ent_set_other h.2.1 (by simp; omega) _, ent_set_other h.2.2.1 (by simp; omega) _, ent_set_other h.2.2.2.1 (by simp; omega) _, ent_set_other h.2.2.2.2.1 (by simpa using hgR.symm) _,
    ⟨l, g1.set_far (fun hp b off ha => hf hp b off ha) _, g2⟩, (h.2.2.2.2.2.2.1.store j d).1, h.2.2.2.2.2.2.2.setCell (by simp; omega) _⟩

theorem rcmp_any {w : World} {s t : Sl} {x y : Nat} (h : RefS w s x) (h' : RefS w t y) (hn : s.n ≤ 8000000000000) (hm : t.n ≤ 8000000000000) :
    Calls Tryz.prog 115 #[.agg #[.slice s.ao s.n s.c], .agg #[.slice t.ao t.n t.c]] w fun e w' =>
      ∃ c : Int, e = .returned (.int .i64 c) ∧ (x ≤ y → c ≤ 0) ∧ (y < x → 0 < c) ∧ Below w.heap.size w w' := by
  refine (rcmp_spec h h' hn hm).mono ?_
  rintro e w' ⟨rfl, hb⟩
  refine ⟨_, rfl, fun hle => ?_, fun hlt => ?_, hb⟩
  · rcases Nat.lt_or_eq_of_le hle with h | h
    · rw [cmpN_lt h]; omega
    · subst h; rw [cmpN_eq]; omega
  · rw [cmpN_gt hlt]; omega

/-- A new row lies apart from an elder block. -/
theorem own_far {w : World} {B g : Nat} {u t : Sl} {l : List Nat} {T : TypeId} {k : IntKind} (h : Own w B T k (.slice u.ao u.n u.c) l) (hg : g < B) (ht : t.ao = u.ao) : Hid (0 < t.n → ∀ b off, t.ao = some ⟨b, off, none⟩ → b ≠ g) := by
  intro _ b off hb
  rw [ht] at hb
  rcases h.2 with ⟨e, _⟩ | ⟨g', cap, cur, e, hg', _⟩
  · simp only [Value.slice.injEq] at e
    rw [e.1] at hb
    simp at hb
  · simp only [Value.slice.injEq] at e
    rw [e.1] at hb
    simp at hb
    omega

/-- The rounds of Div. -/
def RDivRel (w : World) (s t : Sl) (R g : Nat) (l : List Nat) (y : Nat) (iv : Value) (wr : World) : Prop := ∃ (k : Nat) (o : List Nat) (sr : Sl) (ρ : Nat), k ≤ s.n ∧ iv = .int .i64 ((k : Int) - 1) ∧ o.length = s.n ∧ (∀ d ∈ o, d < 10000) ∧
  val 10000 (l.drop k) = y * val 10000 (o.drop k) + ρ ∧ ρ < y ∧ sr.n ≤ t.n ∧ RDivSt w s t R g o sr ρ wr
/-- The search for a digit. -/
def RDivIn (w : World) (s t : Sl) (R g : Nat) (o : List Nat) (sr : Sl) (P y : Nat) (lv hv : Value) (wr : World) : Prop := ∃ lo hi : Nat, lv = .int .i64 lo ∧ hv = .int .i64 hi ∧ lo < hi ∧ hi ≤ 10000 ∧ y * lo ≤ P ∧ P < y * hi ∧ RDivSt w s t R g o sr P wr

set_option maxRecDepth 100000 in
set_option maxHeartbeats 3200000 in
theorem rdiv_walk {w : World} {s t : Sl} {y : Nat} {l : List Nat} (hi : IntsAt w 3 .i64 s l) (hld : ∀ d ∈ l, d < 10000) (h' : RefS w t y) (hn : s.n ≤ 7950000000000) (hm : t.n ≤ 7950000000000) (hy : 0 < y) :
    Calls Tryz.prog 114 #[.agg #[.slice s.ao s.n s.c], .agg #[.slice t.ao t.n t.c]] w fun e w' =>
      ∃ u v : Sl, e = .returned (.tuple #[.agg #[.slice u.ao u.n u.c], .agg #[.slice v.ao v.n v.c]]) ∧ RefS w' u (val 10000 l / y) ∧ RefS w' v (val 10000 l % y) ∧ Below w.heap.size w w' := by
  obtain ⟨ao, n, c⟩ := s
  simp only at hn ⊢
  obtain ⟨hE1, hE2, hE3, hE4, hz⟩ := ents4 w (.cells #[.slice ao n c] 35) (.cells #[.slice t.ao t.n t.c] 35) (.cells #[.slice none 0 0] 35) (.cells #[.slice none 0 0] 35)
  have hbx : Below w.heap.size w ((((w.alloc (.cells #[.slice ao n c] 35)).alloc (.cells #[.slice t.ao t.n t.c] 35)).alloc (.cells #[.slice none 0 0] 35)).alloc (.cells #[.slice none 0 0] 35)) := ((((Below.refl _ _).alloc (Nat.le_refl _) _).alloc (by simp) _).alloc (by simp; omega) _).alloc (by simp; omega) _
  have hA := ent_cell hE1 0
  go_enter Tryz.func114, Tryz.ntmps114
  go_wp2_with (at_make; refine wpList_mkfull' rowInt _ rfl _ _ rfl (w.heap.size + 4) _ _ _ _ n rfl rfl rfl rfl (by omega) (by unfold maxLen; omega) (by simp) ?_; intro w1 ho hb hsz; have hA1 := ent_cell (ent_up hb hE1) 0; have hA2 := ent_cell (ent_old (ent_up hb hE1) (.cells #[.slice none 0 0] 35)) 0)
  have hbR := hb.alloc (Nat.le_trans (Nat.le_of_lt hsz) (Nat.le_refl _)) (.cells #[.slice none 0 0] 35)
  have hoR : Own (w1.alloc (.cells #[.slice none 0 0] 35)) (w.heap.size + 4) 3 .i64 (.slice (some ⟨w.heap.size + 4, 0, none⟩) n n) (List.replicate n 0) := by
    have := ho.alloc (.cells #[.slice none 0 0] 35)
    simpa using this
  have hRlt : w.heap.size + 4 < w1.heap.size := by simp at hsz; omega
  have hst0 : RDivSt w ⟨ao, n, c⟩ t w1.heap.size (w.heap.size + 4) (List.replicate n 0) ⟨none, 0, 0⟩ 0 (w1.alloc (.cells #[.slice none 0 0] 35)) :=
    ⟨ent_up hbR hE1, ent_up hbR hE2, ent_up hbR hE3, ent_up hbR hE4, ent_new _ _, RefS.nil _ _ _ (by omega), hoR, hbx.trans (hbR.mono hbx.size)⟩
  have hll : Hid (n = l.length) := hi.1
  have hinit : RDivRel w ⟨ao, n, c⟩ t w1.heap.size (w.heap.size + 4) l y (.int .i64 ((n : Int) - 1)) (w1.alloc (.cells #[.slice none 0 0] 35)) :=
    ⟨n, _, _, 0, Nat.le_refl _, rfl, by simp, by simp, by have := hll.out; simp [this, val], hy, Nat.zero_le _, hst0⟩
  clear hst0 hoR hbR hA2 hA1 hsz hb ho hA hbx hE1 hE2 hE3 hE4 hz
  generalize w1.heap.size = R at *
  obtain ⟨g, hg⟩ : ∃ g : Nat, g = w.heap.size + 4 := ⟨_, rfl⟩
  have hgR : g ≠ R := by omega
  have hg4 : w.heap.size + 1 + 1 + 1 < g := by omega
  have hR4 : w.heap.size + 1 + 1 + 1 < R := by omega
  rw [show (⟨w.heap.size + 4, 0, none⟩ : Addr) = ⟨g, 0, none⟩ by rw [hg]]
  rw [← hg] at hinit
  have HG := Lib.hid hg; clear hg hRlt
  go_loopw [8] (fun iv wr => RDivRel w ⟨ao, n, c⟩ t R g l y iv wr) (fun iv _ => (intOf iv + 1).toNat)
  case atStart => exact hinit
  case round =>
    clear hinit
    obtain ⟨k, o, sr, ρ, hk, rfl, hol, hod, hval, hρ, hsn, hst⟩ := hrel
    have HOL : Hid (o.length = n) := hol
    clear hol
    have hk : k ≤ n := hk
    have HOD := Lib.hid hod; clear hod
    have HV := Lib.hid hval; clear hval
    by_cases hk0 : 0 < k
    · obtain ⟨j, rfl⟩ : ∃ j, k = j + 1 := ⟨k - 1, by omega⟩
      rw [show (((j + 1 : Nat) : Int) - 1) = (j : Int) by omega]
      obtain ⟨b, off, hao, hbw, hcell⟩ := (hi.up hst.2.2.2.2.2.2.2).open (by omega)
      simp only at hao hk
      subst hao
      have hck := hcell j (by simp; omega)
      clear hcell
      have hx : dg l j < 10000 := dg_lt hld (by omega) j
      have hstep := by_step (B := 10000) (o := o) (d := y) (x := dg l j) (by have := hll.out; omega) (by have := hll.out; have := HOL.out; omega) rfl HV.out
      have HST := Lib.hid hstep; clear hstep
      generalize dg l j = x at *
      obtain ⟨P, hP⟩ : ∃ P : Nat, P = ρ * 10000 + x := ⟨_, rfl⟩
      rw [← hP] at HST
      have hPy : P < y * 10000 := by
        have : (ρ + 1) * 10000 ≤ y * 10000 := Nat.mul_le_mul_right _ hρ
        omega
      obtain ⟨l2, hi2, hd2, hn2, hv2⟩ := hst.2.2.2.2.2.1
      have hvx : val 10000 (x :: l2) = P := by rw [val_cons, hv2, hP]; omega
      have HP := Lib.hid hvx; clear hvx hP hv2
      have hdx : Hid (∀ d ∈ x :: l2, d < 10000) := by
        intro d hd
        rcases List.mem_cons.1 hd with rfl | hd
        · exact hx
        · exact hd2 d hd
      have hl2 : Hid ((1 + l2.length) * 8 ≤ 140737488355328) := by have := hi2.1; show _ ≤ _; omega
      have hA := ent_cell hst.1 0
      have hC := ent_cell hst.2.2.2.2.1 0
      have hRw := ent_lt hst.2.2.2.2.1
      have hj0 : (0 : Int) ≤ (j : Int) := by omega
      have hj1 : (j : Int) < (n : Int) := by omega
      go_upto_region 6 with fail
      go_cut [] (fun wx => ∃ sr' : Sl, RDivSt w ⟨some ⟨b, off, none⟩, n, c⟩ t R g o sr' P wx ∧ sr'.n ≤ t.n + 1 ∧ Hid (0 < sr'.n → ∀ b off, sr'.ao = some ⟨b, off, none⟩ → b ≠ g))
      case first =>
        go_region_law (first
          | ((refine step_prepend (by rfl) _ _ (by rfl) wr.heap.size (x : Int) x sr l2 (by rfl) (by rfl) rfl (by exact ent_new wr _) (by exact hi2.up ((Below.refl _ _).alloc (Nat.le_refl _) _).drew) hl2.out ?_; intro u w2 hown2 hb2))
          | (go_simp; go_at_call 84; refine (rcut_at (s := u) hown2.intsAt hdx.out).mono ?_; rintro e w3 ⟨t', rfl, ht', htn, hta, hb3⟩; (have HTA := Lib.hid hta); clear hta; have hF := ent_up hb3 (ent_below (below_undrew hb2) hRw (ent_old hst.2.2.2.2.1 _)); have hFc := ent_cell hF 0; have hFf := ent_frozen hF 0))
        all_goals go_wp2
        all_goals go_meet
        all_goals (
          have hbw3 : Below wr.heap.size wr w3 := (((Below.refl wr.heap.size wr).alloc (Nat.le_refl _) _).trans (below_undrew hb2)).trans (hb3.mono (by have := (below_undrew hb2).size; simp at this; omega))
          rw [HP.out] at ht'
          exact ⟨t', (hst.up hbw3).rest ht' hR4 hgR, by have := hown2.intsAt.1; have := hi2.1; simp at *; omega, own_far hown2 (hst.2.2.2.2.2.2.1.lt g rfl).2 HTA.out⟩)
      case rest =>
        clear hst hbw hck hx hi2 hd2 hn2 hdx hl2 hA hC hRw hsn
        obtain ⟨sr', hst, hsn, hfar⟩ := hcut
        have hin0 : RDivIn w ⟨some ⟨b, off, none⟩, n, c⟩ t R g o sr' P y (.int .i64 0) (.int .i64 10000) wc := ⟨0, 10000, rfl, rfl, by omega, by omega, by omega, hPy, hst⟩
        clear hst
        go_wp2
        go_loopw [9, 10] (fun lv hv wr => RDivIn w ⟨some ⟨b, off, none⟩, n, c⟩ t R g o sr' P y lv hv wr) (fun lv hv _ => (intOf hv - intOf lv).toNat)
        case atStart => exact hin0
        case round =>
          clear hin0
          obtain ⟨lo, hgh, rfl, rfl, hlh, hh, h1, h2, hst⟩ := hrel
          have hty := h'.up hst.2.2.2.2.2.2.2
          have hsr := hst.2.2.2.2.2.1
          by_cases hgo : lo + 1 < hgh
          · obtain ⟨M, hM⟩ : ∃ M : Nat, M = (lo + hgh) / 2 := ⟨_, rfl⟩
            have hM1 : lo < M := by omega
            have hM2 : M < hgh := by omega
            have hMI : ((lo : Int) + (hgh : Int)) / 2 = (M : Int) := by omega
            have hgoI : (1 : Int) < (hgh : Int) - lo := by omega
            clear hM
            have mk : Hid (∀ w', Grew wr w' → w'.cell? ⟨w.heap.size + 1, 0, none⟩ = some (.slice t.ao t.n t.c) ∧ w'.cell? ⟨R, 0, none⟩ = some (.slice sr'.ao sr'.n sr'.c) ∧ Grew wr w') :=
              fun w' hg => ⟨cell_grew hg hst.2.1, cell_grew hg hst.2.2.2.2.1, hg⟩
            have Hst := Lib.hid hst; clear hst
            by_cases hle : y * M ≤ P
            · go_wp2
              go_region_held3 (fun w' => w'.cell? ⟨w.heap.size + 1, 0, none⟩ = some (.slice t.ao t.n t.c) ∧ w'.cell? ⟨R, 0, none⟩ = some (.slice sr'.ao sr'.n sr'.c) ∧ Grew wr w')
                (first
                  | exact mk.out _ (Grew.refl _).drew
                  | exact mk.out _ (Grew.call (‹_ ∧ _ ∧ Grew wr _›.2.2) ‹Below _ _ _›))
                (first
                  | (go_at_call 132; refine (rsmall_spec M _ rfl (by omega) (hty.grew (‹_ ∧ _ ∧ Grew wr _›.2.2)) (by omega)).mono ?_; rintro e w9 ⟨v, rfl, hv, hvn, hbw⟩)
                  | (go_at_call 115; refine (rcmp_any hv (hsr.grew (‹_ ∧ _ ∧ Grew wr _›.2.2)) (by omega) (by omega)).mono ?_; rintro e w9 ⟨cc, rfl, hc1, hc2, hbw⟩; have hcle := hc1 hle; clear hc1 hc2))
              all_goals go_wp2
              all_goals (
                have hgf := ‹_ ∧ _ ∧ Grew wr _›.2.2
                go_roundw
                case rel => exact ⟨M, hgh, rfl, rfl, by omega, hh, hle, h2, Hst.out.up hgf⟩
                case measure => simp [intOf]; omega)
            · have hlt : P < y * M := by omega
              clear hle
              go_wp2
              go_region_held3 (fun w' => w'.cell? ⟨w.heap.size + 1, 0, none⟩ = some (.slice t.ao t.n t.c) ∧ w'.cell? ⟨R, 0, none⟩ = some (.slice sr'.ao sr'.n sr'.c) ∧ Grew wr w')
                (first
                  | exact mk.out _ (Grew.refl _).drew
                  | exact mk.out _ (Grew.call (‹_ ∧ _ ∧ Grew wr _›.2.2) ‹Below _ _ _›))
                (first
                  | (go_at_call 132; refine (rsmall_spec M _ rfl (by omega) (hty.grew (‹_ ∧ _ ∧ Grew wr _›.2.2)) (by omega)).mono ?_; rintro e w9 ⟨v, rfl, hv, hvn, hbw⟩)
                  | (go_at_call 115; refine (rcmp_any hv (hsr.grew (‹_ ∧ _ ∧ Grew wr _›.2.2)) (by omega) (by omega)).mono ?_; rintro e w9 ⟨cc, rfl, hc1, hc2, hbw⟩; have hcgt := hc2 hlt; clear hc1 hc2))
              all_goals go_wp2
              all_goals (
                have hgf := ‹_ ∧ _ ∧ Grew wr _›.2.2
                go_roundw
                case rel => exact ⟨lo, M, rfl, rfl, by omega, by omega, h1, hlt, Hst.out.up hgf⟩
                case measure => simp [intOf]; omega)
          · have hhl : hgh = lo + 1 := by omega
            subst hhl
            have hdiv : P / y = lo := Nat.div_eq_of_lt_le (by rw [Nat.mul_comm]; exact h1) (by rw [Nat.mul_comm]; exact h2)
            have hmod : P % y = P - y * lo := by
              have := Nat.div_add_mod P y
              rw [hdiv] at this
              omega
            have hρ' : P - y * lo < y := by rw [← hmod]; exact Nat.mod_lt _ hy
            rw [hdiv, hmod] at HST
            have hgoI : decide ((1 : Int) < ((lo + 1 : Nat) : Int) - lo) = false := by simp; omega
            clear hdiv hmod
            have hdig := hst.digit hg4 hgR hfar.out j lo
            obtain ⟨hoc, hof, _, _⟩ := hst.2.2.2.2.2.2.1.slot j (by have := HOL.out; omega)
            have Hst := Lib.hid hst; clear hst
            have hj1 : (j : Int) < (n : Int) := by omega
            go_upto_region 14 with fail
            have hty2 := h'.up hdig.2.2.2.2.2.2.2
            have hsr2 := hdig.2.2.2.2.2.1
            have hC := ent_cell hdig.2.1 0
            have hD := ent_cell hdig.2.2.2.2.1 0
            clear hoc hof hty hsr
            generalize wr.setCell ⟨g, j, none⟩ (.int .i64 (lo : Int)) = wq at *
            have hty0 : RefS wq.drew t y := hty2
            have hsr0 : RefS wq.drew sr' P := hsr2
            have hdig0 := hdig.drewN
            go_region_with (first
              | (go_at_call 132; refine (rsmall_spec lo _ rfl (by omega) hty0 (by omega)).mono ?_; rintro e w4 ⟨v, rfl, hv, hvn, hb4⟩; have hR4' := ent_cell (ent_up hb4 hdig0.2.2.2.2.1) 0)
              | (go_at_call 118; refine (rless_spec (hsr0.up hb4) hv (by omega) h1).mono ?_; rintro e w5 ⟨u, rfl, hu, hun, hb5⟩; have hF := (hdig0.up hb4).up hb5; have hFc := ent_cell hF.2.2.2.2.1 0; have hFf := ent_frozen hF.2.2.2.2.1 0))
            all_goals (
              have hfin := hF.rest hu hR4 hgR
              have hun2 : u.n ≤ t.n := hu.n_le h' (Nat.le_of_lt hρ')
              go_wp2
              go_roundw
              case rel => exact ⟨j, o.set j lo, u, P - y * lo, (show j ≤ n by omega), rfl, by rw [List.length_set]; exact HOL.out, set_lt HOD.out (by omega), HST.out, hρ', hun2, hfin⟩
              case measure => simp [intOf])
    · have hk00 : k = 0 := by omega
      subst hk00
      have hnI : decide ((0 : Int) ≤ ((0 : Nat) : Int) - 1) = false := by simp
      have hoi := hst.2.2.2.2.2.2.1.intsAt
      have hq : val 10000 o = val 10000 l / y ∧ ρ = val 10000 l % y := by
        have h1 := HV.out
        simp only [List.drop_zero] at h1
        rw [h1]
        constructor
        · rw [Nat.mul_add_div hy, Nat.div_eq_of_lt hρ, Nat.add_zero]
        · rw [Nat.mul_add_mod, Nat.mod_eq_of_lt hρ]
      have HQ := Lib.hid hq; clear hq
      have hC := ent_cell hst.2.2.2.2.1 0
      have hst0 := hst.drewN
      have hoi0 : IntsAt wr.drew 3 .i64 ⟨some ⟨g, 0, none⟩, n, n⟩ o := hoi
      go_upto_region 15 with fail
      go_region_with (go_at_call 84; refine (rcut_spec hoi0 HOD.out).mono ?_; rintro e w2 ⟨u, rfl, hu, hun, hb2⟩; have hF := hst0.up hb2; have hFc := ent_cell hF.2.2.2.2.1 0; have hF3 := ent_cell hF.2.2.1 0; have hF3f := ent_frozen hF.2.2.1 0; have hF4 := ent_cell hF.2.2.2.1 0; have hF4f := ent_frozen hF.2.2.2.1 0)
      all_goals go_wp2
      all_goals (
        have k1 := ent_set (i := 0) hF.2.2.1 (.slice u.ao u.n u.c)
        have k2 := ent_set_other (a := ⟨w.heap.size + 1 + 1 + 1, 0, none⟩) k1 (by simp) (.slice sr.ao sr.n sr.c)
        have k3 := ent_set_other (a := ⟨w.heap.size + 1 + 1, 0, none⟩) hF.2.2.2.1 (by simp) (.slice u.ao u.n u.c)
        have k4 := ent_set (i := 0) k3 (.slice sr.ao sr.n sr.c)
        have kk := ((Kp.refl w2).setCell (a := ⟨w.heap.size + 1 + 1, 0, none⟩) hF.2.2.1 (by decide) (.slice u.ao u.n u.c)).setCell (a := ⟨w.heap.size + 1 + 1 + 1, 0, none⟩) k3 (by decide) (.slice sr.ao sr.n sr.c)
        refine bodyPost_ret (v := .tuple #[.agg #[.slice u.ao u.n u.c], .agg #[.slice sr.ao sr.n sr.c]]) (by simp [results, Tryz.results114, go_sem, ent_cell k2 0, ent_cell k4 0]) rfl ⟨u, sr, rfl, ?_, ?_, ?_⟩
        · rw [← HQ.out.1]; exact hu.kp kk
        · rw [← HQ.out.2]; exact hF.2.2.2.2.2.1.kp kk
        · exact (hF.2.2.2.2.2.2.2.setCell (by simp; omega) _).setCell (by simp; omega) _)

/-- The quotient and the rest. -/
theorem rdiv_spec {w : World} {s t : Sl} {x y : Nat} (h : RefS w s x) (h' : RefS w t y) (hn : s.n ≤ 7950000000000) (hm : t.n ≤ 7950000000000) (hy : 0 < y) :
    Calls Tryz.prog 114 #[.agg #[.slice s.ao s.n s.c], .agg #[.slice t.ao t.n t.c]] w fun e w' =>
      ∃ u v : Sl, e = .returned (.tuple #[.agg #[.slice u.ao u.n u.c], .agg #[.slice v.ao v.n v.c]]) ∧ RefS w' u (x / y) ∧ RefS w' v (x % y) ∧ u.n ≤ s.n ∧ v.n ≤ s.n ∧ v.n ≤ t.n ∧ Below w.heap.size w w' := by
  obtain ⟨l, h1, h2, h3, h4⟩ := id h
  refine (rdiv_walk h1 h2 h' hn hm hy).mono ?_
  rintro e w' ⟨u, v, rfl, hu, hv, hb⟩
  rw [h4] at hu hv
  exact ⟨u, v, rfl, hu, hv, hu.n_le h (Nat.div_le_self _ _), hv.n_le h (Nat.mod_le _ _), hv.n_le h' (Nat.le_of_lt (Nat.mod_lt _ hy)), hb⟩

end Go.Proofs.YtlpfkbkpnljieaaGreat

namespace Go.Proofs.YtlpfkbkpnljieaaGreat
open Go.RowKit

/-- Both numbers, on their way down. -/
def RGcdRel (w : World) (G B : Nat) (k : Nat) (wr : World) : Prop := ∃ (sa sb : Sl) (a : Nat),
  wr.heap[w.heap.size]? = some (.cells #[.slice sa.ao sa.n sa.c] 35 (0, 0)) ∧ wr.heap[w.heap.size + 1]? = some (.cells #[.slice sb.ao sb.n sb.c] 35 (0, 0)) ∧
  wr.heap[w.heap.size + 1 + 1]? = some (.cells #[.slice none 0 0] 35 (0, 0)) ∧ RefS wr sa a ∧ RefS wr sb k ∧ Nat.gcd a k = G ∧ sa.n ≤ B ∧ sb.n ≤ B ∧ Below w.heap.size w wr

set_option maxHeartbeats 1600000 in
theorem rgcd_spec {w : World} {s t : Sl} {x y : Nat} (h : RefS w s x) (h' : RefS w t y) (hn : s.n ≤ 7950000000000) (hm : t.n ≤ 7950000000000) :
    Calls Tryz.prog 113 #[.agg #[.slice s.ao s.n s.c], .agg #[.slice t.ao t.n t.c]] w fun e w' =>
      ∃ u : Sl, e = .returned (.agg #[.slice u.ao u.n u.c]) ∧ RefS w' u (Nat.gcd x y) ∧ u.n ≤ max s.n t.n ∧ Below w.heap.size w w' := by
  have hE := ents3 w (.cells #[.slice s.ao s.n s.c] 35) (.cells #[.slice t.ao t.n t.c] 35) (.cells #[.slice none 0 0] 35)
  have hbx : Below w.heap.size w _ := (((Below.refl w.heap.size w).alloc (Nat.le_refl _) (.cells #[.slice s.ao s.n s.c] 35)).alloc (by simp) (.cells #[.slice t.ao t.n t.c] 35)).alloc (by simp; omega) (.cells #[.slice none 0 0] 35)
  have hinit : RGcdRel w (Nat.gcd x y) (max s.n t.n) y _ := ⟨s, t, x, hE.1, hE.2.1, hE.2.2.1, h.up hbx, h'.up hbx, rfl, by omega, by omega, hbx⟩
  have hB : max s.n t.n ≤ 7950000000000 := by omega
  generalize max s.n t.n = B at *
  clear hE hbx
  go_enter Tryz.func113, Tryz.ntmps113
  go_wp2
  go_loopg [8] y (fun k _ wr => RGcdRel w (Nat.gcd x y) B k wr)
  case atStart => exact hinit
  case round =>
    clear hinit
    obtain ⟨sa, sb, a, hE1, hE2, hE3, ha, hb, hg, hna, hnb, hbl⟩ := hrel
    have hA := ent_cell hE1 0
    have hC := ent_cell hE2 0
    have hws : w.heap.size + 1 + 1 < wr.heap.size := ent_lt hE3
    have HG := Lib.hid hg; clear hg
    by_cases h0 : 0 < sb.n
    · have hk0 : 0 < gk := by have := hb.zero_iff; omega
      go_upto_region 3 with (go_at_call 114; refine (rdiv_spec ha hb (by omega) (by omega) hk0).mono ?_; rintro e w2 ⟨u, v, rfl, hu, hv, hun, hvn, hvn2, hb2⟩; clear hA hC)
      have hbX : Below w2.heap.size w2 ((w2.alloc (.cells #[.slice u.ao u.n u.c] 35)).alloc (.cells #[.slice v.ao v.n v.c] 35)) := ((Below.refl _ _).alloc (Nat.le_refl _) _).alloc (by simp) _
      have hX := ents2 w2 (.cells #[.slice u.ao u.n u.c] 35) (.cells #[.slice v.ao v.n v.c] 35)
      have K1 := ent_up hbX (ent_up hb2 hE1)
      have K2 := ent_up hbX (ent_up hb2 hE2)
      have K3 := ent_up hbX (ent_up hb2 hE3)
      have KV := hX.2.1
      have hv' := hv.up hbX
      have hb' := (hb.up hb2).up hbX
      have hblX := (hbl.trans (hb2.mono hbl.size)).trans (hbX.mono (by have := hbl.size; have := hb2.size; omega))
      have hw2 : w.heap.size + 1 + 1 < w2.heap.size := by have := hb2.size; omega
      generalize hXd : ((w2.alloc (.cells #[.slice u.ao u.n u.c] 35)).alloc (.cells #[.slice v.ao v.n v.c] 35)) = X at *
      have hA := ent_cell K1 0
      have hAf := ent_frozen K1 0
      have hC := ent_cell K2 0
      clear hXd hX hbX hE1 hE2 hE3 ha
      go_upto_region 4 with fail
      have L1 := ent_set (i := 0) K1 (.slice sb.ao sb.n sb.c)
      have L2 := ent_set_other (a := ⟨w.heap.size, 0, none⟩) K2 (by simp) (.slice sb.ao sb.n sb.c)
      have L3 := ent_set_other (a := ⟨w.heap.size, 0, none⟩) K3 (by simp; omega) (.slice sb.ao sb.n sb.c)
      have LV := ent_set_other (a := ⟨w.heap.size, 0, none⟩) KV (by simp; omega) (.slice sb.ao sb.n sb.c)
      have kk := (Kp.refl X).setCell (a := ⟨w.heap.size, 0, none⟩) K1 (by decide) (.slice sb.ao sb.n sb.c)
      have hv' := hv'.kp kk
      have hb' := hb'.kp kk
      have hblX : Below w.heap.size w (X.setCell ⟨w.heap.size, 0, none⟩ (.slice sb.ao sb.n sb.c)) := hblX.setCell (Nat.le_refl _) _
      clear hA hAf hC kk
      generalize X.setCell ⟨w.heap.size, 0, none⟩ (.slice sb.ao sb.n sb.c) = Y at *
      have hV := ent_cell LV 0
      have hC := ent_cell L2 0
      have hCf := ent_frozen L2 0
      go_wp2
      go_roundg (a % gk)
      case measure => exact Nat.mod_lt _ hk0
      case rel =>
        refine ⟨sb, v, gk, ent_set_other L1 (by simp) _, ent_set L2 _, ent_set_other L3 (by simp) _, ?_, ?_, ?_, hnb, by omega, hblX.setCell (by simp) _⟩
        · exact hb'.kp ((Kp.refl _).setCell (a := ⟨w.heap.size + 1, 0, none⟩) L2 (by decide) _)
        · exact hv'.kp ((Kp.refl _).setCell (a := ⟨w.heap.size + 1, 0, none⟩) L2 (by decide) _)
        · rw [Nat.gcd_comm, ← Nat.gcd_rec, Nat.gcd_comm]; exact HG.out
    · have hk0 : gk = 0 := by have := hb.zero_iff; omega
      subst hk0
      have hR := ent_cell hE3 0
      have hRf := ent_frozen hE3 0
      go_wp2
      refine bodyPost_ret (v := .agg #[.slice sa.ao sa.n sa.c]) (by simp [results, Tryz.results113, go_sem, hR]) rfl ⟨sa, rfl, ?_, hna, hbl.setCell (by simp; omega) _⟩
      have := HG.out
      rw [Nat.gcd_zero_right] at this
      rw [← this]
      exact ha.kp ((Kp.refl _).setCell (a := ⟨w.heap.size + 1 + 1, 0, none⟩) hE3 (by decide) _)

/-- Two's memory. -/
def RTwoSt (w : World) (b3 b4 : Nat) (sa sb : Sl) (a b : Nat) (wr : World) : Prop :=
  wr.heap[w.heap.size]? = some (.cells #[.slice none 0 0] 35 (0, 0)) ∧ wr.heap[b3]? = some (.cells #[.slice sa.ao sa.n sa.c] 35 (0, 0)) ∧ wr.heap[b4]? = some (.cells #[.slice sb.ao sb.n sb.c] 35 (0, 0)) ∧
  RefS wr sa a ∧ RefS wr sb b ∧ Below w.heap.size w wr
theorem RTwoSt.up {w : World} {b3 b4 : Nat} {sa sb : Sl} {a b : Nat} {wr w' : World} (h : RTwoSt w b3 b4 sa sb a b wr) (hb : Below wr.heap.size wr w') : RTwoSt w b3 b4 sa sb a b w' :=
  ⟨ent_up hb h.1, ent_up hb h.2.1, ent_up hb h.2.2.1, h.2.2.2.1.up hb, h.2.2.2.2.1.up hb, h.2.2.2.2.2.trans (hb.mono h.2.2.2.2.2.size)⟩
theorem RTwoSt.setB {w : World} {b3 b4 : Nat} {sa sb u : Sl} {a b x : Nat} {wr : World} (h : RTwoSt w b3 b4 sa sb a b wr) (hu : RefS wr u x) (h3 : w.heap.size < b3) (h34 : b3 < b4) : RTwoSt w b3 b4 sa u a x (wr.setCell ⟨b4, 0, none⟩ (.slice u.ao u.n u.c)) :=
  ⟨ent_set_other h.1 (by simp; omega) _, ent_set_other h.2.1 (by simp; omega) _, ent_set h.2.2.1 _, h.2.2.2.1.kp ((Kp.refl _).setCell (a := ⟨b4, 0, none⟩) h.2.2.1 (by decide) _), hu.kp ((Kp.refl _).setCell (a := ⟨b4, 0, none⟩) h.2.2.1 (by decide) _), h.2.2.2.2.2.setCell (by simp; omega) _⟩

end Go.Proofs.YtlpfkbkpnljieaaGreat

namespace Go.Proofs.YtlpfkbkpnljieaaGreat
open Go.RowKit

theorem txt_dec_size {x k : Nat} (h : (dl x).length ≤ k) : (txt (dec x)).size ≤ k + 1 := by
  have e : (txt (dec x)).size = (dec x).length := by simp [txt, ByteArray.size]
  rw [e]
  unfold dec
  split
  · simp
  · simp; omega

theorem rdl_bound {w : World} {s : Sl} {x : Nat} (h : RefS w s x) : (dl x).length ≤ 4 * s.n := by
  refine dl_len _ _ ?_
  have := h.lt_pow
  rw [Nat.pow_mul]
  exact this

end Go.Proofs.YtlpfkbkpnljieaaGreat
