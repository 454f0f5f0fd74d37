/- The reference: Add, Less. -/
import Derived.Test.YtnjohlimjbmkgaaProg
import Derived.Test.YtnjohlimjbmkgaaRefA
import Derived.Test.YtnjohlimjbmkgaaOwn
namespace Go.Proofs.Ytnjohlimjbmkgaa
open Go.RowKit

theorem norm_snoc {o : List Nat} {d : Nat} (h : d ≠ 0) : Norm (o ++ [d]) := by unfold Norm; simpa using h
theorem norm_of_val {B : Nat} {o : List Nat} (hd : ∀ d ∈ o, d < B) (hv : B ^ (o.length - 1) ≤ val B o) (hl : 0 < o.length) : Norm o := by
  obtain ⟨m, d, rfl⟩ : ∃ m d, o = m ++ [d] := ⟨o.dropLast, o.getLast (by rintro rfl; simp at hl), (List.dropLast_concat_getLast _).symm⟩
  intro h
  have hd0 : d = 0 := by simpa using h
  subst hd0
  rw [val_snoc] at hv
  have := val_lt B m (fun x hx => hd x (by simp [hx]))
  simp at hv
  omega

def RLessRel (w : World) (n : Nat) (l r : List Nat) (W : World) (dv cy iv : Value) (wr : World) : Prop := ∃ (k : Nat) (o : List Nat) (q : Nat), k ≤ n ∧ iv = .int .i64 k ∧ cy = .int .i64 q ∧ q ≤ 1 ∧ Own wr (w.heap.size + 3) 3 .i64 dv o ∧ o.length = k ∧ (∀ d ∈ o, d < 10000) ∧ val 10000 (l.take k) + 10000 ^ k * q = val 10000 o + val 10000 (r.take k) ∧ Below (w.heap.size + 3) W wr

set_option maxHeartbeats 1600000 in
theorem rless_walk (ao bo : Option Addr) (n m c d : Nat) (l r : List Nat) (w : World) (h : IntsAt w 3 .i64 ⟨ao, n, c⟩ l) (h' : IntsAt w 3 .i64 ⟨bo, m, d⟩ r) (hl : ∀ d ∈ l, d < 10000) (hr : ∀ d ∈ r, d < 10000) (hn : n ≤ 1000000000000) (hmn : m ≤ n) (hv : val 10000 r ≤ val 10000 l) :
    Calls Try.prog 65 #[.agg #[.slice ao n c], .agg #[.slice bo m d]] w fun e w' =>
      ∃ (s : Sl), e = .returned (.agg #[.slice s.ao s.n s.c]) ∧ RefS w' s (val 10000 l - val 10000 r) ∧ s.n ≤ n ∧ Below w.heap.size w w' := by
  have hop : Hid (0 < n → ∃ b off, ao = some ⟨b, off, none⟩ ∧ b < w.heap.size ∧ ∀ i, i < n → w.cell? ⟨b, off + i, none⟩ = some (.int .i64 ((dg l i : Nat) : Int))) := h.open
  have hop' : Hid (0 < m → ∃ b off, bo = some ⟨b, off, none⟩ ∧ b < w.heap.size ∧ ∀ i, i < m → w.cell? ⟨b, off + i, none⟩ = some (.int .i64 ((dg r i : Nat) : Int))) := h'.open
  have hlen : Hid (n = l.length) := h.1
  have hlen' : Hid (m = r.length) := h'.1
  clear h h'
  have hll : Hid (∀ d ∈ l, d < 10000) := hl
  have hrr : Hid (∀ d ∈ r, d < 10000) := hr
  clear hl hr
  have hvv := Lib.hid hv; clear hv
  obtain ⟨hE1, hE2, hE3, hz⟩ := ents3 w (.cells #[.slice ao n c] 26) (.cells #[.slice bo m d] 26) (.cells #[.slice none 0 0] 26)
  have hbw : Below w.heap.size w (((w.alloc (.cells #[.slice ao n c] 26)).alloc (.cells #[.slice bo m d] 26)).alloc (.cells #[.slice none 0 0] 26)) := (((Below.refl _ _).alloc (Nat.le_refl _) _).alloc (by simp) _).alloc (by simp; omega) _
  have hWs : w.heap.size + 3 ≤ (((w.alloc (.cells #[.slice ao n c] 26)).alloc (.cells #[.slice bo m d] 26)).alloc (.cells #[.slice none 0 0] 26)).heap.size := Nat.le_of_eq hz.symm
  clear hz
  generalize hW : (((w.alloc (.cells #[.slice ao n c] 26)).alloc (.cells #[.slice bo m d] 26)).alloc (.cells #[.slice none 0 0] 26)) = W at hE1 hE2 hE3 hbw hWs
  have HW := Lib.hid hW; clear hW
  have hinit : RLessRel w n l r W (.slice none 0 0) (.int .i64 0) (.int .i64 0) W := ⟨0, [], 0, Nat.zero_le _, rfl, rfl, by omega, Own.nil _ _ _ _, rfl, by simp, by simp [val], Below.refl _ _⟩
  go_enter Try.func65, Try.ntmps65
  go_wp2
  rw [HW.out]
  go_loopw [5, 6, 7] (fun dv cy iv wr => RLessRel w n l r W dv cy iv wr) (fun _ _ iv _ => n - (intOf iv).toNat)
  case atStart => exact hinit
  case round =>
    clear hinit
    obtain ⟨k, o, q, hk, rfl, rfl, hq, hown, hol, hod, hval, hbl⟩ := hrel
    have HOL := Lib.hid hol; clear hol
    have HOD := Lib.hid hod; clear hod
    have HV := Lib.hid hval; clear hval
    have hws : w.heap.size + 3 ≤ wr.heap.size := Nat.le_trans hWs hbl.size
    have hA := ent_cell (ent_below hbl (by omega) hE1) 0
    have hB := ent_cell (ent_below hbl (by omega) hE2) 0
    have hl1 : (o.length + 1) * 8 ≤ 140737488355328 := by have := HOL.out; omega
    have hl2 : o.length + 1 ≤ maxLen := by have := HOL.out; unfold maxLen; omega
    by_cases hlt : k < n
    · obtain ⟨b, off, rfl, hbw0, hcell⟩ := hop.out (by omega)
      have hck : wr.cell? ⟨b, off + k, none⟩ = some (.int .i64 ((dg l k : Nat) : Int)) := ((hbl.cell (p := ⟨b, off + k, none⟩) (by simp; omega)).trans (hbw.cell (p := ⟨b, off + k, none⟩) hbw0)).trans (hcell k hlt)
      clear hcell
      have hx : dg l k < 10000 := dg_lt hll.out (by omega) k
      by_cases hltm : k < m
      · obtain ⟨b', off', rfl, hbw0', hcell'⟩ := hop'.out (by omega)
        have hck' : wr.cell? ⟨b', off' + k, none⟩ = some (.int .i64 ((dg r k : Nat) : Int)) := ((hbl.cell (p := ⟨b', off' + k, none⟩) (by simp; omega)).trans (hbw.cell (p := ⟨b', off' + k, none⟩) hbw0')).trans (hcell' k hltm)
        clear hcell'
        have hy : dg r k < 10000 := dg_lt hrr.out (by omega) k
        by_cases hneg : dg l k < q + dg r k
        · have hstep := Lib.hid (less_step2 (B := 10000) (x := dg l k) (y := dg r k) (r := r) HOL.out rfl rfl (by omega) HV.out)
          generalize dg l k = x at *
          generalize dg r k = y at *
          go_wp2_with (at_builtin; refine wpList_push rowInt _ rfl _ _ rfl (w.heap.size + 3) u5 o _ (x + 10000 - (q + y)) rfl rfl hown (by first | rfl | omega) hl1 hl2 hws ?_; intro v' w' hown' hb')
          go_wp2
          go_roundw
          case rel => exact ⟨k + 1, o ++ [x + 10000 - (q + y)], 1, by omega, by go_num, by first | rfl | go_num, by omega, hown', by simp [HOL.out], snoc_lt HOD.out (by omega), hstep.out, hbl.trans hb'⟩
          case measure => simp [intOf]; omega
        · have hstep := Lib.hid (less_step1 (B := 10000) (x := dg l k) (y := dg r k) (r := r) HOL.out rfl rfl (by omega) HV.out)
          generalize dg l k = x at *
          generalize dg r k = y at *
          go_wp2_with (at_builtin; refine wpList_push rowInt _ rfl _ _ rfl (w.heap.size + 3) u5 o _ (x - (q + y)) rfl rfl hown (by first | rfl | omega) hl1 hl2 hws ?_; intro v' w' hown' hb')
          go_wp2
          go_roundw
          case rel => exact ⟨k + 1, o ++ [x - (q + y)], 0, by omega, by go_num, by first | rfl | go_num, by omega, hown', by simp [HOL.out], snoc_lt HOD.out (by omega), hstep.out, hbl.trans hb'⟩
          case measure => simp [intOf]; omega
      · by_cases hneg : dg l k < q
        · have hstep := Lib.hid (less_step2 (B := 10000) (x := dg l k) (y := 0) (r := r) HOL.out rfl (dg_big (by have := hlen'.out; omega)) (by omega) HV.out)
          generalize dg l k = x at *
          go_wp2_with (at_builtin; refine wpList_push rowInt _ rfl _ _ rfl (w.heap.size + 3) u5 o _ (x + 10000 - (q + 0)) rfl rfl hown (by first | rfl | omega) hl1 hl2 hws ?_; intro v' w' hown' hb')
          go_wp2
          go_roundw
          case rel => exact ⟨k + 1, o ++ [x + 10000 - (q + 0)], 1, by omega, by go_num, by first | rfl | go_num, by omega, hown', by simp [HOL.out], snoc_lt HOD.out (by omega), hstep.out, hbl.trans hb'⟩
          case measure => simp [intOf]; omega
        · have hstep := Lib.hid (less_step1 (B := 10000) (x := dg l k) (y := 0) (r := r) HOL.out rfl (dg_big (by have := hlen'.out; omega)) (by omega) HV.out)
          generalize dg l k = x at *
          go_wp2_with (at_builtin; refine wpList_push rowInt _ rfl _ _ rfl (w.heap.size + 3) u5 o _ (x - (q + 0)) rfl rfl hown (by first | rfl | omega) hl1 hl2 hws ?_; intro v' w' hown' hb')
          go_wp2
          go_roundw
          case rel => exact ⟨k + 1, o ++ [x - (q + 0)], 0, by omega, by go_num, by first | rfl | go_num, by omega, hown', by simp [HOL.out], snoc_lt HOD.out (by omega), hstep.out, hbl.trans hb'⟩
          case measure => simp [intOf]; omega
    · have hkn : Hid (k = n) := by unfold Hid; omega
      obtain ⟨s, rfl, hs⟩ := hown.ints
      have hE3' := ent_below hbl (by omega) hE3
      have hsl := Lib.hid hs.1
      go_wp2_with (go_at_call 94; refine (rcut_spec hs HOD.out).mono ?_; rintro e w2 ⟨t, rfl, ht, htn, hb2⟩; have hF := ent_up hb2 hE3'; have hR := ent_cell hF 0; have hRf := ent_frozen hF 0)
      refine bodyPost_ret (v := .agg #[.slice t.ao t.n t.c]) (by simp [results, Try.results65, go_sem, hR]) rfl ⟨t, rfl, ?_, ?_, ?_⟩
      · have e : val 10000 o = val 10000 l - val 10000 r := by
          have h1 := HV.out
          rw [val_take_all _ l _ (by have := hlen.out; have := hkn.out; omega), val_take_all _ r _ (by have := hlen'.out; have := hkn.out; omega)] at h1
          exact less_end HOD.out HOL.out hvv.out h1
        rw [← e]
        exact ht.kp ((Kp.refl _).setCell (a := ⟨w.heap.size + 1 + 1, 0, none⟩) hF (by decide) _)
      · have := hsl.out; have := HOL.out; have := hkn.out; omega
      · exact ((hbw.trans (hbl.mono (by omega))).trans (hb2.mono (by omega))).setCell (by simp; omega) _

/-- The difference. -/
theorem rless_spec {w : World} {s t : Sl} {x y : Nat} (h : RefS w s x) (h' : RefS w t y) (hn : s.n ≤ 1000000000000) (hxy : y ≤ x) :
    Calls Try.prog 65 #[.agg #[.slice s.ao s.n s.c], .agg #[.slice t.ao t.n t.c]] w fun e w' =>
      ∃ u : Sl, e = .returned (.agg #[.slice u.ao u.n u.c]) ∧ RefS w' u (x - y) ∧ u.n ≤ s.n ∧ Below w.heap.size w w' := by
  have hts := h'.n_le h hxy
  obtain ⟨l, h1, h2, h3, h4⟩ := h
  obtain ⟨r, g1, g2, g3, g4⟩ := h'
  subst h4
  subst g4
  exact rless_walk s.ao t.ao s.n t.n s.c t.c l r w h1 g1 h2 g2 hn hts hxy

def RAddRel (w : World) (n m : Nat) (l r : List Nat) (W : World) (dv cy iv : Value) (wr : World) : Prop := ∃ (k : Nat) (o : List Nat) (q : Nat), k ≤ max n m + 1 ∧ iv = .int .i64 k ∧ cy = .int .i64 q ∧ q ≤ 1 ∧ Own wr (w.heap.size + 3) 3 .i64 dv o ∧ o.length = k ∧ (∀ d ∈ o, d < 10000) ∧ val 10000 o + 10000 ^ k * q = val 10000 (l.take k) + val 10000 (r.take k) ∧ (max n m < k → q = 0 ∧ Norm o) ∧ Below (w.heap.size + 3) W wr

set_option maxHeartbeats 1600000 in
theorem radd_walk (ao bo : Option Addr) (n m c d : Nat) (l r : List Nat) (w : World) (h : IntsAt w 3 .i64 ⟨ao, n, c⟩ l) (h' : IntsAt w 3 .i64 ⟨bo, m, d⟩ r) (hl : ∀ d ∈ l, d < 10000) (hr : ∀ d ∈ r, d < 10000) (hn : n ≤ 1000000000000) (hm : m ≤ 1000000000000) (nl : Norm l) (nr : Norm r) :
    Calls Try.prog 63 #[.agg #[.slice ao n c], .agg #[.slice bo m d]] w fun e w' =>
      ∃ (s : Sl), e = .returned (.agg #[.slice s.ao s.n s.c]) ∧ RefS w' s (val 10000 l + val 10000 r) ∧ s.n ≤ max n m + 1 ∧ Below w.heap.size w w' := by
  have hop : Hid (0 < n → ∃ b off, ao = some ⟨b, off, none⟩ ∧ b < w.heap.size ∧ ∀ i, i < n → w.cell? ⟨b, off + i, none⟩ = some (.int .i64 ((dg l i : Nat) : Int))) := h.open
  have hop' : Hid (0 < m → ∃ b off, bo = some ⟨b, off, none⟩ ∧ b < w.heap.size ∧ ∀ i, i < m → w.cell? ⟨b, off + i, none⟩ = some (.int .i64 ((dg r i : Nat) : Int))) := h'.open
  have hlen : Hid (n = l.length) := h.1
  have hlen' : Hid (m = r.length) := h'.1
  clear h h'
  have hll : Hid (∀ d ∈ l, d < 10000) := hl
  have hrr : Hid (∀ d ∈ r, d < 10000) := hr
  clear hl hr
  have hnl := Lib.hid nl; clear nl
  have hnr := Lib.hid nr; clear nr
  obtain ⟨hE1, hE2, hE3, hz⟩ := ents3 w (.cells #[.slice ao n c] 26) (.cells #[.slice bo m d] 26) (.cells #[.slice none 0 0] 26)
  have hbw : Below w.heap.size w (((w.alloc (.cells #[.slice ao n c] 26)).alloc (.cells #[.slice bo m d] 26)).alloc (.cells #[.slice none 0 0] 26)) := (((Below.refl _ _).alloc (Nat.le_refl _) _).alloc (by simp) _).alloc (by simp; omega) _
  have hWs : w.heap.size + 3 ≤ (((w.alloc (.cells #[.slice ao n c] 26)).alloc (.cells #[.slice bo m d] 26)).alloc (.cells #[.slice none 0 0] 26)).heap.size := Nat.le_of_eq hz.symm
  clear hz
  generalize hW : (((w.alloc (.cells #[.slice ao n c] 26)).alloc (.cells #[.slice bo m d] 26)).alloc (.cells #[.slice none 0 0] 26)) = W at hE1 hE2 hE3 hbw hWs
  have HW := Lib.hid hW; clear hW
  have hinit : RAddRel w n m l r W (.slice none 0 0) (.int .i64 0) (.int .i64 0) W := ⟨0, [], 0, Nat.zero_le _, rfl, rfl, by omega, Own.nil _ _ _ _, rfl, by simp, by simp [val], fun h => absurd h (by omega), Below.refl _ _⟩
  go_enter Try.func63, Try.ntmps63
  go_wp2
  rw [HW.out]
  go_loopw [5, 6, 7] (fun dv cy iv wr => RAddRel w n m l r W dv cy iv wr) (fun _ _ iv _ => max n m + 1 - (intOf iv).toNat)
  case atStart => exact hinit
  case round =>
    clear hinit
    obtain ⟨k, o, q, hk, rfl, rfl, hq, hown, hol, hod, hval, hfin, hbl⟩ := hrel
    have HOL := Lib.hid hol; clear hol
    have HOD := Lib.hid hod; clear hod
    have HV := Lib.hid hval; clear hval
    have hws : w.heap.size + 3 ≤ wr.heap.size := Nat.le_trans hWs hbl.size
    have hA := ent_cell (ent_below hbl (by omega) hE1) 0
    have hB := ent_cell (ent_below hbl (by omega) hE2) 0
    have hl1 : (o.length + 1) * 8 ≤ 140737488355328 := by have := HOL.out; omega
    have hl2 : o.length + 1 ≤ maxLen := by have := HOL.out; unfold maxLen; omega
    have HF := Lib.hid hfin; clear hfin
    have hkN : Hid (max n m < k → q = 0) := fun h => (HF.out h).1
    by_cases hlt : k < n
    · obtain ⟨b, off, rfl, hbw0, hcell⟩ := hop.out (by omega)
      have hck : wr.cell? ⟨b, off + k, none⟩ = some (.int .i64 ((dg l k : Nat) : Int)) := ((hbl.cell (p := ⟨b, off + k, none⟩) (by simp; omega)).trans (hbw.cell (p := ⟨b, off + k, none⟩) hbw0)).trans (hcell k hlt)
      clear hcell
      have hx : dg l k < 10000 := dg_lt hll.out (by omega) k
      by_cases hltm : k < m
      · obtain ⟨b', off', rfl, hbw0', hcell'⟩ := hop'.out (by omega)
        have hck' : wr.cell? ⟨b', off' + k, none⟩ = some (.int .i64 ((dg r k : Nat) : Int)) := ((hbl.cell (p := ⟨b', off' + k, none⟩) (by simp; omega)).trans (hbw.cell (p := ⟨b', off' + k, none⟩) hbw0')).trans (hcell' k hltm)
        clear hcell'
        have hy : dg r k < 10000 := dg_lt hrr.out (by omega) k
        have hstep := Lib.hid (add_step (B := 10000) (l := l) (r := r) HOL.out (rfl : dg l k = dg l k) (rfl : dg r k = dg r k) rfl HV.out)
        generalize dg l k = x at *
        generalize dg r k = y at *
        go_wp2_with (at_builtin; refine wpList_push rowInt _ rfl _ _ rfl (w.heap.size + 3) u5 o _ ((q + x + y) % 10000) rfl rfl hown (by first | rfl | omega) hl1 hl2 hws ?_; intro v' w' hown' hb')
        go_wp2
        go_roundw
        case rel => exact ⟨k + 1, o ++ [(q + x + y) % 10000], (q + x + y) / 10000, by omega, by go_num, by first | rfl | go_num, by omega, hown', by simp [HOL.out], snoc_lt HOD.out (by omega), hstep.out, fun h => absurd h (by omega), hbl.trans hb'⟩
        case measure => simp [intOf]; omega
      · have hstep := Lib.hid (add_step (B := 10000) (l := l) (r := r) (y := 0) HOL.out (rfl : dg l k = dg l k) (dg_big (by have := hlen'.out; omega)) rfl HV.out)
        generalize dg l k = x at *
        go_wp2_with (at_builtin; refine wpList_push rowInt _ rfl _ _ rfl (w.heap.size + 3) u5 o _ ((q + x + 0) % 10000) rfl rfl hown (by first | rfl | omega) hl1 hl2 hws ?_; intro v' w' hown' hb')
        go_wp2
        go_roundw
        case rel => exact ⟨k + 1, o ++ [(q + x + 0) % 10000], (q + x + 0) / 10000, by omega, by go_num, by first | rfl | go_num, by omega, hown', by simp [HOL.out], snoc_lt HOD.out (by omega), hstep.out, fun h => absurd h (by omega), hbl.trans hb'⟩
        case measure => simp [intOf]; omega
    · by_cases hltm : k < m
      · obtain ⟨b', off', rfl, hbw0', hcell'⟩ := hop'.out (by omega)
        have hck' : wr.cell? ⟨b', off' + k, none⟩ = some (.int .i64 ((dg r k : Nat) : Int)) := ((hbl.cell (p := ⟨b', off' + k, none⟩) (by simp; omega)).trans (hbw.cell (p := ⟨b', off' + k, none⟩) hbw0')).trans (hcell' k hltm)
        clear hcell'
        have hy : dg r k < 10000 := dg_lt hrr.out (by omega) k
        have hstep := Lib.hid (add_step (B := 10000) (l := l) (r := r) (x := 0) HOL.out (dg_big (by have := hlen.out; omega)) (rfl : dg r k = dg r k) rfl HV.out)
        generalize dg r k = y at *
        go_wp2_with (at_builtin; refine wpList_push rowInt _ rfl _ _ rfl (w.heap.size + 3) u5 o _ ((q + 0 + y) % 10000) rfl rfl hown (by first | rfl | omega) hl1 hl2 hws ?_; intro v' w' hown' hb')
        go_wp2
        go_roundw
        case rel => exact ⟨k + 1, o ++ [(q + 0 + y) % 10000], (q + 0 + y) / 10000, by omega, by go_num, by first | rfl | go_num, by omega, hown', by simp [HOL.out], snoc_lt HOD.out (by omega), hstep.out, fun h => absurd h (by omega), hbl.trans hb'⟩
        case measure => simp [intOf]; omega
      · by_cases hq1 : 0 < q
        · have hkN' : k = max n m := by
            have := hkN.out
            omega
          have HkN := Lib.hid hkN'; clear hkN'
          have hkle : k ≤ max n m := by have := HkN.out; omega
          have hstep := Lib.hid (add_step (B := 10000) (l := l) (r := r) (x := 0) (y := 0) HOL.out (dg_big (by have := hlen.out; omega)) (dg_big (by have := hlen'.out; omega)) rfl HV.out)
          go_wp2_with (at_builtin; refine wpList_push rowInt _ rfl _ _ rfl (w.heap.size + 3) u5 o _ ((q + 0 + 0) % 10000) rfl rfl hown (by first | rfl | omega) hl1 hl2 hws ?_; intro v' w' hown' hb')
          go_wp2
          go_roundw
          case rel => exact ⟨k + 1, o ++ [(q + 0 + 0) % 10000], (q + 0 + 0) / 10000, by omega, by go_num, by first | rfl | go_num, by omega, hown', by simp [HOL.out], snoc_lt HOD.out (by omega), hstep.out, fun _ => ⟨by omega, norm_snoc (by omega)⟩, hbl.trans hb'⟩
          case measure => simp [intOf]; omega
        · have hq0 : q = 0 := by omega
          obtain ⟨s, rfl, hs⟩ := hown.ints
          have hE3' := ent_below hbl (by omega) hE3
          have hsl := Lib.hid hs.1
          have hR := ent_cell hE3' 0
          have hRf := ent_frozen hE3' 0
          have hval : val 10000 o = val 10000 l + val 10000 r := by
            have h1 := HV.out
            rw [hq0, val_take_all _ l _ (by have := hlen.out; omega), val_take_all _ r _ (by have := hlen'.out; omega)] at h1
            simpa using h1
          have hnorm : Norm o := by
            by_cases hN : max n m < k
            · exact (HF.out hN).2
            · by_cases hk0 : k = 0
              · have : o = [] := List.eq_nil_of_length_eq_zero (by rw [HOL.out]; exact hk0)
                rw [this]; exact norm_nil
              · refine norm_of_val HOD.out ?_ (by rw [HOL.out]; omega)
                rw [HOL.out, hval]
                by_cases hnm : n = k
                · have := hnl.out.pos 10000 (l := l) (by intro e; have := hlen.out; rw [e] at this; simp at this; omega)
                  rw [← hlen.out, hnm] at this
                  omega
                · have hmk : m = k := by omega
                  have := hnr.out.pos 10000 (l := r) (by intro e; have := hlen'.out; rw [e] at this; simp at this; omega)
                  rw [← hlen'.out, hmk] at this
                  omega
          have HVAL := Lib.hid hval; clear hval
          have hq1I : decide ((0 : Int) < (q : Int)) = false := by simp; omega
          clear hq0
          go_wp2
          refine bodyPost_ret (v := .agg #[.slice s.ao s.n s.c]) (by simp [results, Try.results63, go_sem, hR]) rfl ⟨s, rfl, ⟨o, hs.kp (.inr (.inl rfl)) ((Kp.refl _).setCell (a := ⟨w.heap.size + 1 + 1, 0, none⟩) hE3' (by decide) _), HOD.out, hnorm, HVAL.out⟩, ?_, ?_⟩
          · have := hsl.out; have := HOL.out; omega
          · exact (hbw.trans (hbl.mono (by omega))).setCell (by simp; omega) _

/-- The sum. -/
theorem radd_spec {w : World} {s t : Sl} {x y : Nat} (h : RefS w s x) (h' : RefS w t y) (hn : s.n ≤ 1000000000000) (hm : t.n ≤ 1000000000000) :
    Calls Try.prog 63 #[.agg #[.slice s.ao s.n s.c], .agg #[.slice t.ao t.n t.c]] w fun e w' =>
      ∃ u : Sl, e = .returned (.agg #[.slice u.ao u.n u.c]) ∧ RefS w' u (x + y) ∧ u.n ≤ max s.n t.n + 1 ∧ Below w.heap.size w w' := by
  obtain ⟨l, h1, h2, h3, h4⟩ := h
  obtain ⟨r, g1, g2, g3, g4⟩ := h'
  subst h4
  subst g4
  exact radd_walk s.ao t.ao s.n t.n s.c t.c l r w h1 g1 h2 g2 hn hm h3 g3

end Go.Proofs.Ytnjohlimjbmkgaa
