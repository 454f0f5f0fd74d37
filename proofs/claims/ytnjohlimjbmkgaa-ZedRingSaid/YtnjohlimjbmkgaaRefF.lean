/- The reference: Mul, Small. -/
import Derived.Test.YtnjohlimjbmkgaaProg
import Derived.Test.YtnjohlimjbmkgaaRefD
import Derived.Test.YtnjohlimjbmkgaaRefE
import Derived.Deep.DeepCutAuto
import Derived.IntWalk
namespace Go.Proofs.Ytnjohlimjbmkgaa
open Go.RowKit

theorem dmul_lim (x y : Nat) (hx : x < 10000) (hy : y < 10000) : 0 ≤ (x : Int) * y ∧ (x : Int) * y ≤ 99980001 := by
  have h : x * y ≤ 9999 * 9999 := Nat.mul_le_mul (by omega) (by omega)
  rw [← Int.natCast_mul]
  omega

/-- A carry, one place up. -/
theorem carry_step {B k q z : Nat} {p : List Nat} (hk : k < p.length) (hz : dg p k = z) : val B (p.set k ((q + z) % B)) + B ^ (k + 1) * ((q + z) / B) = val B p + B ^ k * q := by
  have h1 := val_set B p k ((q + z) % B) hk
  rw [hz] at h1
  have h2 := Nat.div_add_mod (q + z) B
  generalize (q + z) / B = u at *
  generalize (q + z) % B = v at *
  rw [Nat.pow_succ]
  have h3 : B ^ k * (B * u + v) = B ^ k * (q + z) := by rw [h2]
  have h4 : val B (p.set k v) + B ^ k * z + B ^ k * (B * u) = val B p + B ^ k * (q + z) := by rw [← h3, h1]; grind
  grind

theorem rmul_bound {n m i : Nat} {l r : List Nat} (hn : n = l.length) (hm : m = r.length) (hl : ∀ d ∈ l, d < 10000) (hr : ∀ d ∈ r, d < 10000) (hi : i < n) : val 10000 (l.take (i + 1)) * val 10000 r < 10000 ^ (n + m) := by
  have h1 := val_lt 10000 (l.take (i + 1)) (fun d hd => hl d (List.mem_of_mem_take hd))
  have h2 := val_lt 10000 r hr
  have h3 : (l.take (i + 1)).length ≤ n := by simp; omega
  have h4 : 10000 ^ (l.take (i + 1)).length ≤ 10000 ^ n := Nat.pow_le_pow_right (by omega) h3
  rw [← hm] at h2
  rw [Nat.pow_add]
  have h5 : val 10000 (l.take (i + 1)) * val 10000 r ≤ val 10000 (l.take (i + 1)) * 10000 ^ m := Nat.mul_le_mul_left _ (Nat.le_of_lt h2)
  have h6 : val 10000 (l.take (i + 1)) * 10000 ^ m < 10000 ^ n * 10000 ^ m := Nat.mul_lt_mul_of_pos_right (by omega) (Nat.pow_pos (by omega))
  omega

/-- The rows so far. -/
def RMulRel (w : World) (g n m : Nat) (l r : List Nat) (W : World) (iv : Value) (wr : World) : Prop := ∃ (i : Nat) (p : List Nat), i ≤ n ∧ iv = .int .i64 i ∧ Own wr (w.heap.size + 3) 3 .i64 (.slice (some ⟨g, 0, none⟩) (n + m + 1) (n + m + 1)) p ∧
  p.length = n + m + 1 ∧ (∀ d ∈ p, d < 10000) ∧ val 10000 p = val 10000 (l.take i) * val 10000 r ∧ Below (w.heap.size + 3) W wr
/-- One row. -/
def RMulIn (w : World) (g n m i x : Nat) (l r : List Nat) (W : World) (cy kv : Value) (wr : World) : Prop := ∃ (k q : Nat) (p : List Nat), k ≤ m ∧ kv = .int .i64 k ∧ cy = .int .i64 q ∧ q < 10000 ∧ Own wr (w.heap.size + 3) 3 .i64 (.slice (some ⟨g, 0, none⟩) (n + m + 1) (n + m + 1)) p ∧
  p.length = n + m + 1 ∧ (∀ d ∈ p, d < 10000) ∧ val 10000 p + 10000 ^ (i + k) * q = val 10000 (l.take i) * val 10000 r + 10000 ^ i * x * val 10000 (r.take k) ∧ Below (w.heap.size + 3) W wr
/-- The carry behind a row. -/
def RMulCy (w : World) (g n m C : Nat) (W : World) (cy kv : Value) (wr : World) : Prop := ∃ (k q : Nat) (p : List Nat), k ≤ n + m ∧ kv = .int .i64 k ∧ cy = .int .i64 q ∧ q < 10000 ∧ Own wr (w.heap.size + 3) 3 .i64 (.slice (some ⟨g, 0, none⟩) (n + m + 1) (n + m + 1)) p ∧
  p.length = n + m + 1 ∧ (∀ d ∈ p, d < 10000) ∧ val 10000 p + 10000 ^ k * q = C ∧ Below (w.heap.size + 3) W wr

set_option maxHeartbeats 3200000 in
theorem rmul_walk (ao bo : Option Addr) (n m c d : Nat) (l r : List Nat) (w : World) (h : IntsAt w 3 .i64 ⟨ao, n, c⟩ l) (h' : IntsAt w 3 .i64 ⟨bo, m, d⟩ r) (hl : ∀ d ∈ l, d < 10000) (hr : ∀ d ∈ r, d < 10000) (hn : n ≤ 1000000000000) (hm : m ≤ 1000000000000) :
    Calls Try.prog 75 #[.agg #[.slice ao n c], .agg #[.slice bo m d]] w fun e w' =>
      ∃ (s : Sl), e = .returned (.agg #[.slice s.ao s.n s.c]) ∧ RefS w' s (val 10000 l * val 10000 r) ∧ Below w.heap.size w w' := by
  have hop : Hid (0 < n → ∃ b off, ao = some ⟨b, off, none⟩ ∧ b < w.heap.size ∧ ∀ i, i < n → w.cell? ⟨b, off + i, none⟩ = some (.int .i64 ((dg l i : Nat) : Int))) := h.open
  have hop' : Hid (0 < m → ∃ b off, bo = some ⟨b, off, none⟩ ∧ b < w.heap.size ∧ ∀ i, i < m → w.cell? ⟨b, off + i, none⟩ = some (.int .i64 ((dg r i : Nat) : Int))) := h'.open
  have hlen : Hid (n = l.length) := h.1
  have hlen' : Hid (m = r.length) := h'.1
  clear h h'
  have hll : Hid (∀ d ∈ l, d < 10000) := hl
  have hrr : Hid (∀ d ∈ r, d < 10000) := hr
  clear hl hr
  obtain ⟨hE1, hE2, hE3, hz⟩ := ents3 w (.cells #[.slice ao n c] 26) (.cells #[.slice bo m d] 26) (.cells #[.slice none 0 0] 26)
  have hbw : Below w.heap.size w (((w.alloc (.cells #[.slice ao n c] 26)).alloc (.cells #[.slice bo m d] 26)).alloc (.cells #[.slice none 0 0] 26)) := (((Below.refl _ _).alloc (Nat.le_refl _) _).alloc (by simp) _).alloc (by simp; omega) _
  go_enter Try.func75, Try.ntmps75
  go_wp2_with (at_make; refine wpList_mkfull rowInt _ rfl _ _ rfl (w.heap.size + 3) _ _ _ _ (n + m + 1) rfl rfl (by omega) (by omega) (by omega) (by unfold maxLen; omega) (by simp) ?_; intro w1 ho hb hsz)
  have hbw1 : Below w.heap.size w w1 := hbw.trans (hb.mono (by omega))
  have F1 := ent_below hb (by omega) hE1
  have F2 := ent_below hb (by omega) hE2
  have F3 := ent_below hb (by omega) hE3
  have hw1 : w.heap.size + 3 ≤ w1.heap.size := by have := hb.size; simp at this; omega
  clear hb hbw hz hE1 hE2 hE3
  replace ho : Own w1 (w.heap.size + 3) 3 .i64 (.slice (some ⟨w.heap.size + 1 + 1 + 1, 0, none⟩) (n + m + 1) (n + m + 1)) (List.replicate (n + m + 1) 0) := by simpa using ho
  rw [show w.heap.size + 1 + 1 + 1 = w.heap.size + 3 from rfl] at ho ⊢
  have hinit : RMulRel w (w.heap.size + 3) n m l r w1 (.int .i64 0) w1 := ⟨0, _, Nat.zero_le _, rfl, ho, by simp, by simp, by simp [val, val_replicate], Below.refl _ _⟩
  clear ho
  go_loopw [6] (fun iv wr => RMulRel w (w.heap.size + 3) n m l r w1 iv wr) (fun iv _ => n - (intOf iv).toNat)
  case atStart => exact hinit
  case round =>
    clear hinit
    obtain ⟨i, p, hi, rfl, hown, hol, hod, hval, hbl⟩ := hrel
    have HOL := Lib.hid hol; clear hol
    have HOD := Lib.hid hod; clear hod
    have HV := Lib.hid hval; clear hval
    have hA := ent_cell (ent_below hbl (by omega) F1) 0
    have hB := ent_cell (ent_below hbl (by omega) F2) 0
    by_cases hlt : i < n
    · obtain ⟨b, off, rfl, hbw0, hcell⟩ := hop.out (by omega)
      have hx : dg l i < 10000 := dg_lt hll.out (by omega) i
      have hcki : Hid (w.cell? ⟨b, off + i, none⟩ = some (.int .i64 ((dg l i : Nat) : Int))) := hcell i hlt
      clear hcell
      have HB := Lib.hid (rmul_bound hlen.out hlen'.out hll.out hrr.out hlt)
      have HT := Lib.hid (val_take_next 10000 l i)
      generalize dg l i = x at *
      have hin : RMulIn w (w.heap.size + 3) n m i x l r w1 (.int .i64 0) (.int .i64 0) wr := ⟨0, 0, p, Nat.zero_le _, rfl, rfl, by omega, hown, HOL.out, HOD.out, by simp [val]; exact HV.out, hbl⟩
      obtain ⟨wo, hwo⟩ : ∃ wo : World, wo = wr := ⟨_, rfl⟩
      subst hwo
      clear hown HOL HOD HV
      go_wp2
      go_loopw [7, 8] (fun cy kv wr => RMulIn w (w.heap.size + 3) n m i x l r w1 cy kv wr) (fun _ kv _ => m - (intOf kv).toNat)
      case atStart => exact hin
      case round =>
        clear hin hA hB hbl
        obtain ⟨k, q, p, hk, rfl, rfl, hq, hown, hol, hod, hval, hbl⟩ := hrel
        have hws := hbl.size
        have HOL := Lib.hid hol; clear hol
        have HOD := Lib.hid hod; clear hod
        have HV := Lib.hid hval; clear hval
        have hA := ent_cell (ent_below hbl (show w.heap.size < w.heap.size + 3 by omega) F1) 0
        have hB := ent_cell (ent_below hbl (show w.heap.size + 1 < w.heap.size + 3 by omega) F2) 0
        by_cases hlt2 : k < m
        · have hck : wr.cell? ⟨b, off + i, none⟩ = some (.int .i64 (x : Int)) := ((hbl.cell (p := ⟨b, off + i, none⟩) (by simp; omega)).trans (hbw1.cell (p := ⟨b, off + i, none⟩) hbw0)).trans hcki.out
          obtain ⟨b', off', rfl, hbw0', hcell'⟩ := hop'.out (by omega)
          have hck' : wr.cell? ⟨b', off' + k, none⟩ = some (.int .i64 ((dg r k : Nat) : Int)) := ((hbl.cell (p := ⟨b', off' + k, none⟩) (by simp; omega)).trans (hbw1.cell (p := ⟨b', off' + k, none⟩) hbw0')).trans (hcell' k hlt2)
          clear hcell'
          have hy : dg r k < 10000 := dg_lt hrr.out (by omega) k
          have hz : dg p (i + k) < 10000 := dg_lt HOD.out (by omega) (i + k)
          obtain ⟨hoc, hof, _, _⟩ := hown.slot (i + k) (by have := HOL.out; omega)
          have hstep := Lib.hid (mul_step (B := 10000) (by have := HOL.out; omega) rfl rfl HV.out)
          generalize dg r k = y at *
          generalize dg p (i + k) = z at *
          obtain ⟨hx0, hxm⟩ := dmul_lim x y hx hy
          have hu1 : (q + (x * y + z)) / 10000 < 10000 ∧ q + (x * y + z) < 100000000 := by
            have : x * y ≤ 9999 * 9999 := Nat.mul_le_mul (by omega) (by omega)
            omega
          obtain ⟨N, hN⟩ : ∃ N : Nat, N = q + (x * y + z) := ⟨_, rfl⟩
          rw [← hN] at hstep hu1
          have hNI : (q : Int) + z + (x : Int) * y = (N : Int) := by rw [hN]; push_cast; omega
          have HN := Lib.hid hN; clear hN
          have hu2 := hu1.2
          have hu3 := Lib.hid hu1.1
          clear hu1
          have hi0 : (0 : Int) ≤ (i : Int) := by omega
          have hi1 : (i : Int) < (n : Int) := by omega
          have hk0 : (0 : Int) ≤ (k : Int) := by omega
          have hk1 : (k : Int) < (m : Int) := by omega
          have hik0 : (0 : Int) ≤ (i : Int) + k := by omega
          have hik1 : (i : Int) + k < (n : Int) + m + 1 := by omega
          have hikn : ((i : Int) + k).toNat = i + k := by omega
          have hikw : IntKind.i64.wrap ((i : Int) + k) = (i : Int) + k := IntWalk.i64_in _ (by omega)
          go_upto_region 9 with fail
          go_quiet (fail)
          have hown2 : Own (wr.drewN nq) (w.heap.size + 3) 3 .i64 (.slice (some ⟨w.heap.size + 3, 0, none⟩) (n + m + 1) (n + m + 1)) p := hown
          have hbl2 := below_drewN hbl nq
          clear hoc hof hck hck' hA hB hbl hown
          generalize wr.drewN nq = wq at *
          obtain ⟨hoc, hof, _, _⟩ := hown2.slot (i + k) (by have := HOL.out; omega)
          have hst := hown2.store (i + k) (N % 10000)
          go_wp2
          go_roundw
          case rel => exact ⟨k + 1, N / 10000, _, by omega, by go_num, by go_num, hu3.out, hst.1, by rw [List.length_set]; exact HOL.out, set_lt HOD.out (Nat.mod_lt _ (by omega)), hstep.out, hbl2.trans hst.2⟩
          case measure => simp [intOf]; omega
        · have hkm : k = m := by omega
          have HC : Hid (val 10000 p + 10000 ^ (i + m) * q = val 10000 (l.take (i + 1)) * val 10000 r) := by
            have h1 := HV.out
            rw [hkm, val_take_all _ r _ (by have := hlen'.out; omega)] at h1
            show _ = _
            rw [h1, HT.out]
            grind
          have hkI : decide ((k : Int) < (m : Int)) = false := by simp; omega
          clear hkm HV hcki
          generalize hC : val 10000 (l.take (i + 1)) * val 10000 r = C at *
          have HCC := Lib.hid hC; clear hC
          have hcy : RMulCy w (w.heap.size + 3) n m C w1 (.int .i64 q) (.int .i64 ((i : Int) + m)) wr := ⟨i + m, q, p, by omega, by simp, rfl, hq, hown, HOL.out, HOD.out, HC.out, hbl⟩
          clear hown HOL HOD HC
          obtain ⟨wo, hwo⟩ : ∃ wo : World, wo = wr := ⟨_, rfl⟩
          subst hwo
          go_wp2
          go_loopw [7, 9] (fun cy kv wr => RMulCy w (w.heap.size + 3) n m C w1 cy kv wr) (fun _ kv _ => n + m + 1 - (intOf kv).toNat)
          case atStart => exact hcy
          case round =>
            clear hcy hA hB hbl
            obtain ⟨k, q, p, hk, rfl, rfl, hq, hown, hol, hod, hval, hbl⟩ := hrel
            have HOL := Lib.hid hol; clear hol
            have HOD := Lib.hid hod; clear hod
            have HV := Lib.hid hval; clear hval
            by_cases hq0 : 0 < q
            · have hkn : k < n + m := by
                have h1 : 10000 ^ k * 1 ≤ 10000 ^ k * q := Nat.mul_le_mul_left _ hq0
                have h2 : 10000 ^ k < 10000 ^ (n + m) := by have := HV.out; have := HB.out; omega
                exact (Nat.pow_lt_pow_iff_right (by omega)).1 h2
              have hz : dg p k < 10000 := dg_lt HOD.out (by omega) k
              obtain ⟨hoc, hof, _, _⟩ := hown.slot k (by have := HOL.out; omega)
              have hstep := Lib.hid (carry_step (B := 10000) (k := k) (q := q) (p := p) (by have := HOL.out; omega) rfl)
              generalize dg p k = z at *
              have hst := hown.store k ((q + z) % 10000)
              have hq' : (q + z) / 10000 < 10000 := by omega
              go_wp2
              go_roundw
              case rel => exact ⟨k + 1, (q + z) / 10000, _, by omega, by go_num, by go_num, hq', hst.1, by rw [List.length_set]; exact HOL.out, set_lt HOD.out (Nat.mod_lt _ (by omega)), hstep.out.trans HV.out, hbl.trans hst.2⟩
              case measure => simp [intOf]; omega
            · have hq00 : q = 0 := by omega
              have hend : val 10000 p = C := by have := HV.out; rw [hq00] at this; simpa using this
              have HEND := Lib.hid (hend.trans HCC.out.symm)
              have hq0I : decide ((0 : Int) < (q : Int)) = false := by simp; omega
              clear hq00 hend
              go_wp2
              go_roundw
              case rel => exact ⟨i + 1, p, by omega, by go_num, hown, HOL.out, HOD.out, HEND.out, hbl⟩
              case measure => simp [intOf]; omega
    · have hkn : Hid (val 10000 p = val 10000 l * val 10000 r) := by
        show _ = _
        rw [HV.out, val_take_all _ _ _ (by have := hlen.out; omega)]
      have hsi := hown.intsAt
      have hF3 := ent_below hbl (by omega) F3
      have hws := hbl.size
      go_wp2_with (go_at_call 94; refine (rcut_spec hsi HOD.out).mono ?_; rintro e w2 ⟨t, rfl, ht, htn, hb2⟩; have hE3' := ent_up hb2 hF3; have hR := ent_cell hE3' 0; have hRf := ent_frozen hE3' 0)
      rw [hkn.out] at ht
      refine bodyPost_ret (v := .agg #[.slice t.ao t.n t.c]) (by simp [results, Try.results75, go_sem, hR]) rfl ⟨t, rfl, ht.kp ((Kp.refl _).setCell (a := ⟨w.heap.size + 1 + 1, 0, none⟩) hE3' (by decide) _), ?_⟩
      exact ((hbw1.trans (hbl.mono (by omega))).trans (hb2.mono (by omega))).setCell (by simp; omega) _

theorem RefS.n_bound {w : World} {s : Sl} {x k : Nat} (h : RefS w s x) (hx : x < 10000 ^ k) : s.n ≤ k := by
  obtain ⟨l, h1, h2, h3, h4⟩ := h
  rw [h1.1]
  exact h3.len_of_lt (B := 10000) (by omega) (by rw [h4]; exact hx)
theorem RefS.lt_pow {w : World} {s : Sl} {x : Nat} (h : RefS w s x) : x < 10000 ^ s.n := by
  obtain ⟨l, h1, h2, h3, h4⟩ := h
  rw [← h4, h1.1]
  exact val_lt _ _ h2

/-- The product. -/
theorem rmul_spec {w : World} {s t : Sl} {x y : Nat} (h : RefS w s x) (h' : RefS w t y) (hn : s.n ≤ 1000000000000) (hm : t.n ≤ 1000000000000) :
    Calls Try.prog 75 #[.agg #[.slice s.ao s.n s.c], .agg #[.slice t.ao t.n t.c]] w fun e w' =>
      ∃ u : Sl, e = .returned (.agg #[.slice u.ao u.n u.c]) ∧ RefS w' u (x * y) ∧ u.n ≤ s.n + t.n ∧ Below w.heap.size w w' := by
  have hb : x * y < 10000 ^ (s.n + t.n) := by
    rw [Nat.pow_add]
    have h1 := h.lt_pow
    have h2 := h'.lt_pow
    have h3 : x * y ≤ x * 10000 ^ t.n := Nat.mul_le_mul_left _ (Nat.le_of_lt h2)
    have h4 : x * 10000 ^ t.n < 10000 ^ s.n * 10000 ^ t.n := Nat.mul_lt_mul_of_pos_right h1 (Nat.pow_pos (by omega))
    omega
  obtain ⟨l, h1, h2, h3, h4⟩ := h
  obtain ⟨r, g1, g2, g3, g4⟩ := h'
  subst h4
  subst g4
  refine (rmul_walk s.ao t.ao s.n t.n s.c t.c l r w h1 g1 h2 g2 hn hm).mono ?_
  rintro e w' ⟨u, rfl, hu, hbl⟩
  exact ⟨u, rfl, hu, hu.n_bound hb, hbl⟩

end Go.Proofs.Ytnjohlimjbmkgaa
