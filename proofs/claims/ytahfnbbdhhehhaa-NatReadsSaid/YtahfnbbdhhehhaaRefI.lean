/- The reference: Gcd, Two. -/
import Derived.Test.YtahfnbbdhhehhaaProg
import Derived.Test.YtahfnbbdhhehhaaRefH
import Derived.Deep.LoopGhost
import Derived.Deep.DeepCutAuto
namespace Go.Proofs.Ytahfnbbdhhehhaa
open Go.RowKit

/-- Both numbers, on their way down. -/
def RGcdRel (w : World) (G B : Nat) (k : Nat) (wr : World) : Prop := ∃ (sa sb : Sl) (a : Nat),
  wr.heap[w.heap.size]? = some (.cells #[.slice sa.ao sa.n sa.c] 30 (0, 0)) ∧ wr.heap[w.heap.size + 1]? = some (.cells #[.slice sb.ao sb.n sb.c] 30 (0, 0)) ∧
  wr.heap[w.heap.size + 1 + 1]? = some (.cells #[.slice none 0 0] 30 (0, 0)) ∧ RefS wr sa a ∧ RefS wr sb k ∧ Nat.gcd a k = G ∧ sa.n ≤ B ∧ sb.n ≤ B ∧ Below w.heap.size w wr

set_option maxHeartbeats 1600000 in
theorem rgcd_spec {w : World} {s t : Sl} {x y : Nat} (h : RefS w s x) (h' : RefS w t y) (hn : s.n ≤ 1000000) (hm : t.n ≤ 1000000) :
    Calls Try.prog 39 #[.agg #[.slice s.ao s.n s.c], .agg #[.slice t.ao t.n t.c]] w fun e w' =>
      ∃ u : Sl, e = .returned (.agg #[.slice u.ao u.n u.c]) ∧ RefS w' u (Nat.gcd x y) ∧ u.n ≤ max s.n t.n ∧ Below w.heap.size w w' := by
  have hE := ents3 w (.cells #[.slice s.ao s.n s.c] 30) (.cells #[.slice t.ao t.n t.c] 30) (.cells #[.slice none 0 0] 30)
  have hbx : Below w.heap.size w _ := (((Below.refl w.heap.size w).alloc (Nat.le_refl _) (.cells #[.slice s.ao s.n s.c] 30)).alloc (by simp) (.cells #[.slice t.ao t.n t.c] 30)).alloc (by simp; omega) (.cells #[.slice none 0 0] 30)
  have hinit : RGcdRel w (Nat.gcd x y) (max s.n t.n) y _ := ⟨s, t, x, hE.1, hE.2.1, hE.2.2.1, h.up hbx, h'.up hbx, rfl, by omega, by omega, hbx⟩
  have hB : max s.n t.n ≤ 1000000 := by omega
  generalize max s.n t.n = B at *
  clear hE hbx
  go_enter Try.func39, Try.ntmps39
  go_wp2
  go_loopg [8] y (fun k _ wr => RGcdRel w (Nat.gcd x y) B k wr)
  case atStart => exact hinit
  case round =>
    clear hinit
    obtain ⟨sa, sb, a, hE1, hE2, hE3, ha, hb, hg, hna, hnb, hbl⟩ := hrel
    have hA := ent_cell hE1 0
    have hC := ent_cell hE2 0
    have hws : w.heap.size + 1 + 1 < wr.heap.size := ent_lt hE3
    have HG := Lib.hid hg; clear hg
    by_cases h0 : 0 < sb.n
    · have hk0 : 0 < gk := by have := hb.zero_iff; omega
      go_upto_region 3 with (go_at_call 32; refine (rdiv_spec ha hb (by omega) (by omega) hk0).mono ?_; rintro e w2 ⟨u, v, rfl, hu, hv, hun, hvn, hvn2, hb2⟩; clear hA hC)
      have hbX : Below w2.heap.size w2 ((w2.alloc (.cells #[.slice u.ao u.n u.c] 30)).alloc (.cells #[.slice v.ao v.n v.c] 30)) := ((Below.refl _ _).alloc (Nat.le_refl _) _).alloc (by simp) _
      have hX := ents2 w2 (.cells #[.slice u.ao u.n u.c] 30) (.cells #[.slice v.ao v.n v.c] 30)
      have K1 := ent_up hbX (ent_up hb2 hE1)
      have K2 := ent_up hbX (ent_up hb2 hE2)
      have K3 := ent_up hbX (ent_up hb2 hE3)
      have KV := hX.2.1
      have hv' := hv.up hbX
      have hb' := (hb.up hb2).up hbX
      have hblX := (hbl.trans (hb2.mono hbl.size)).trans (hbX.mono (by have := hbl.size; have := hb2.size; omega))
      have hw2 : w.heap.size + 1 + 1 < w2.heap.size := by have := hb2.size; omega
      generalize hXd : ((w2.alloc (.cells #[.slice u.ao u.n u.c] 30)).alloc (.cells #[.slice v.ao v.n v.c] 30)) = X at *
      have hA := ent_cell K1 0
      have hAf := ent_frozen K1 0
      have hC := ent_cell K2 0
      clear hXd hX hbX hE1 hE2 hE3 ha
      go_upto_region 4 with fail
      have L1 := ent_set (i := 0) K1 (.slice sb.ao sb.n sb.c)
      have L2 := ent_set_other (a := ⟨w.heap.size, 0, none⟩) K2 (by simp) (.slice sb.ao sb.n sb.c)
      have L3 := ent_set_other (a := ⟨w.heap.size, 0, none⟩) K3 (by simp; omega) (.slice sb.ao sb.n sb.c)
      have LV := ent_set_other (a := ⟨w.heap.size, 0, none⟩) KV (by simp; omega) (.slice sb.ao sb.n sb.c)
      have kk := (Kp.refl X).setCell (a := ⟨w.heap.size, 0, none⟩) K1 (by decide) (.slice sb.ao sb.n sb.c)
      have hv' := hv'.kp kk
      have hb' := hb'.kp kk
      have hblX : Below w.heap.size w (X.setCell ⟨w.heap.size, 0, none⟩ (.slice sb.ao sb.n sb.c)) := hblX.setCell (Nat.le_refl _) _
      clear hA hAf hC kk
      generalize X.setCell ⟨w.heap.size, 0, none⟩ (.slice sb.ao sb.n sb.c) = Y at *
      have hV := ent_cell LV 0
      have hC := ent_cell L2 0
      have hCf := ent_frozen L2 0
      go_wp2
      go_roundg (a % gk)
      case measure => exact Nat.mod_lt _ hk0
      case rel =>
        refine ⟨sb, v, gk, ent_set_other L1 (by simp) _, ent_set L2 _, ent_set_other L3 (by simp) _, ?_, ?_, ?_, hnb, by omega, hblX.setCell (by simp) _⟩
        · exact hb'.kp ((Kp.refl _).setCell (a := ⟨w.heap.size + 1, 0, none⟩) L2 (by decide) _)
        · exact hv'.kp ((Kp.refl _).setCell (a := ⟨w.heap.size + 1, 0, none⟩) L2 (by decide) _)
        · rw [Nat.gcd_comm, ← Nat.gcd_rec, Nat.gcd_comm]; exact HG.out
    · have hk0 : gk = 0 := by have := hb.zero_iff; omega
      subst hk0
      have hR := ent_cell hE3 0
      have hRf := ent_frozen hE3 0
      go_wp2
      refine bodyPost_ret (v := .agg #[.slice sa.ao sa.n sa.c]) (by simp [results, Try.results39, go_sem, hR]) rfl ⟨sa, rfl, ?_, hna, hbl.setCell (by simp; omega) _⟩
      have := HG.out
      rw [Nat.gcd_zero_right] at this
      rw [← this]
      exact ha.kp ((Kp.refl _).setCell (a := ⟨w.heap.size + 1 + 1, 0, none⟩) hE3 (by decide) _)

/-- Two's memory. -/
def RTwoSt (w : World) (b3 b4 : Nat) (sa sb : Sl) (a b : Nat) (wr : World) : Prop :=
  wr.heap[w.heap.size]? = some (.cells #[.slice none 0 0] 30 (0, 0)) ∧ wr.heap[b3]? = some (.cells #[.slice sa.ao sa.n sa.c] 30 (0, 0)) ∧ wr.heap[b4]? = some (.cells #[.slice sb.ao sb.n sb.c] 30 (0, 0)) ∧
  RefS wr sa a ∧ RefS wr sb b ∧ Below w.heap.size w wr
theorem RTwoSt.up {w : World} {b3 b4 : Nat} {sa sb : Sl} {a b : Nat} {wr w' : World} (h : RTwoSt w b3 b4 sa sb a b wr) (hb : Below wr.heap.size wr w') : RTwoSt w b3 b4 sa sb a b w' :=
  ⟨ent_up hb h.1, ent_up hb h.2.1, ent_up hb h.2.2.1, h.2.2.2.1.up hb, h.2.2.2.2.1.up hb, h.2.2.2.2.2.trans (hb.mono h.2.2.2.2.2.size)⟩
theorem RTwoSt.setA {w : World} {b3 b4 : Nat} {sa sb u : Sl} {a b x : Nat} {wr : World} (h : RTwoSt w b3 b4 sa sb a b wr) (hu : RefS wr u x) (h3 : w.heap.size < b3) (h34 : b3 < b4) : RTwoSt w b3 b4 u sb x b (wr.setCell ⟨b3, 0, none⟩ (.slice u.ao u.n u.c)) :=
  ⟨ent_set_other h.1 (by simp; omega) _, ent_set h.2.1 _, ent_set_other h.2.2.1 (by simp; omega) _, hu.kp ((Kp.refl _).setCell (a := ⟨b3, 0, none⟩) h.2.1 (by decide) _), h.2.2.2.2.1.kp ((Kp.refl _).setCell (a := ⟨b3, 0, none⟩) h.2.1 (by decide) _), h.2.2.2.2.2.setCell (by simp; omega) _⟩
theorem RTwoSt.setB {w : World} {b3 b4 : Nat} {sa sb u : Sl} {a b x : Nat} {wr : World} (h : RTwoSt w b3 b4 sa sb a b wr) (hu : RefS wr u x) (h3 : w.heap.size < b3) (h34 : b3 < b4) : RTwoSt w b3 b4 sa u a x (wr.setCell ⟨b4, 0, none⟩ (.slice u.ao u.n u.c)) :=
  ⟨ent_set_other h.1 (by simp; omega) _, ent_set_other h.2.1 (by simp; omega) _, ent_set h.2.2.1 _, h.2.2.2.1.kp ((Kp.refl _).setCell (a := ⟨b4, 0, none⟩) h.2.2.1 (by decide) _), hu.kp ((Kp.refl _).setCell (a := ⟨b4, 0, none⟩) h.2.2.1 (by decide) _), h.2.2.2.2.2.setCell (by simp; omega) _⟩

/-- The powers' numbers. -/
def TwoN (K k a b : Nat) : Prop := a * b ^ k = 2 ^ K ∧ 0 < b ∧ b ≤ 2 * 2 ^ K ∧ K ≤ 2000

theorem TwoN.bounds {K k a b : Nat} (h : TwoN K k a b) : a ≤ 2 * 2 ^ K ∧ b ≤ 2 * 2 ^ K ∧ b ^ k ≤ 2 ^ K ∧ 0 < a := by
  obtain ⟨h1, h2, h3, h4⟩ := h
  have h6 : 0 < b ^ k := Nat.pow_pos h2
  have h7 : 0 < 2 ^ K := Nat.pow_pos (by omega)
  have h8 : 0 < a := by
    rcases Nat.eq_zero_or_pos a with e | e
    · rw [e, Nat.zero_mul] at h1
      omega
    · exact e
  have h9 : a * 1 ≤ a * b ^ k := Nat.mul_le_mul_left _ h6
  have h10 : 1 * b ^ k ≤ a * b ^ k := Nat.mul_le_mul_right _ h8
  exact ⟨by omega, by omega, by omega, h8⟩

theorem TwoN.odd {K k a b : Nat} (h : TwoN K k a b) (ho : k % 2 = 1) (hk : 1 < k) : TwoN K (k / 2) (a * b) (b * b) := by
  have hb := h.bounds
  obtain ⟨h1, h2, h3, h4⟩ := h
  have e : k = 2 * (k / 2) + 1 := by omega
  refine ⟨?_, Nat.mul_pos h2 h2, ?_, h4⟩
  · rw [← h1]
    conv => rhs; rw [e, Nat.pow_succ, Nat.pow_mul]
    rw [show b ^ 2 = b * b by rw [Nat.pow_succ, Nat.pow_one]]
    grind
  · have : b ^ 2 ≤ b ^ k := Nat.pow_le_pow_right h2 (by omega)
    rw [show b ^ 2 = b * b by rw [Nat.pow_succ, Nat.pow_one]] at this
    omega
theorem TwoN.one {K a b : Nat} (h : TwoN K 1 a b) : TwoN K 0 (a * b) b := by
  obtain ⟨h1, h2, h3, h4⟩ := h
  exact ⟨by simpa using h1, h2, h3, h4⟩
theorem TwoN.even {K k a b : Nat} (h : TwoN K k a b) (he : k % 2 = 0) (hk : 1 < k) : TwoN K (k / 2) a (b * b) := by
  have hb := h.bounds
  obtain ⟨h1, h2, h3, h4⟩ := h
  have e : k = 2 * (k / 2) := by omega
  refine ⟨?_, Nat.mul_pos h2 h2, ?_, h4⟩
  · rw [← h1]
    conv => rhs; rw [e, Nat.pow_mul]
    rw [show b ^ 2 = b * b by rw [Nat.pow_succ, Nat.pow_one]]
  · have : b ^ 2 ≤ b ^ k := Nat.pow_le_pow_right h2 (by omega)
    rw [show b ^ 2 = b * b by rw [Nat.pow_succ, Nat.pow_one]] at this
    omega

def RTwoRel (w : World) (b3 b4 K : Nat) (kv : Value) (wr : World) : Prop := ∃ (k a b : Nat) (sa sb : Sl), kv = .int .i64 k ∧ k ≤ 2000 ∧ TwoN K k a b ∧ RTwoSt w b3 b4 sa sb a b wr

theorem two_lt {K n : Nat} (h : K + 1 < 10 * n) : 2 * 2 ^ K < 10000 ^ n := by
  have h1 : 2 * 2 ^ K = 2 ^ (K + 1) := by rw [Nat.pow_succ, Nat.mul_comm]
  have h2 : 2 ^ (K + 1) < 2 ^ (10 * n) := Nat.pow_lt_pow_right (by omega) h
  have h3 : 2 ^ (10 * n) = (2 ^ 10) ^ n := Nat.pow_mul 2 10 n
  have h4 : (2 ^ 10) ^ n ≤ 10000 ^ n := Nat.pow_le_pow_left (by decide) n
  omega

theorem refs_bound {w : World} {s : Sl} {x K : Nat} (h : RefS w s x) (hx : x ≤ 2 * 2 ^ K) (hK : K ≤ 2000) : s.n ≤ 201 := h.n_bound (k := 201) (Nat.lt_of_le_of_lt hx (two_lt (by omega)))

set_option maxHeartbeats 1600000 in
theorem rtwo_spec (K : Nat) (w : World) (hK : K ≤ 2000) :
    Calls Try.prog 20 #[.int .i64 (K : Int)] w fun e w' =>
      ∃ u : Sl, e = .returned (.agg #[.slice u.ao u.n u.c]) ∧ RefS w' u (2 ^ K) ∧ u.n ≤ 201 ∧ Below w.heap.size w w' := by
  have hE := ents1 w (.cells #[.slice none 0 0] 30)
  have hbx : Below w.heap.size w _ := (Below.refl w.heap.size w).alloc (Nat.le_refl _) (.cells #[.slice none 0 0] 30)
  go_enter Try.func20, Try.ntmps20
  go_wp2_with fail
  refine (rof_v 1 _ _ rfl (by omega)).mono ?_
  rintro e w1 ⟨p, rfl, hp, hpn, hb1⟩
  have hg1 : Below (w.alloc (.cells #[.slice none 0 0] 30)).heap.size (w.alloc (.cells #[.slice none 0 0] 30)) (w1.alloc (.cells #[.slice p.ao p.n p.c] 30)) := hb1.alloc hb1.size _
  have hR1 := ent_up hg1 hE.1
  have hP1 := ent_new w1 (.cells #[.slice p.ao p.n p.c] 30)
  have hp1 := hp.up ((Below.refl _ _).alloc (Nat.le_refl _) (.cells #[.slice p.ao p.n p.c] 30))
  have hbw1 := hbx.trans (hg1.mono hbx.size)
  have h3 : w.heap.size < w1.heap.size := by have := hb1.size; simp at this; omega
  clear hp hb1 hg1 hbx hE
  go_wp2_with fail
  generalize w1.alloc (.cells #[.slice p.ao p.n p.c] 30) = W1 at *
  refine (rof_v 2 _ _ rfl (by omega)).mono ?_
  rintro e w2 ⟨q, rfl, hq, hqn, hb2⟩
  have hg2 : Below W1.heap.size W1 (w2.alloc (.cells #[.slice q.ao q.n q.c] 30)) := hb2.alloc hb2.size _
  have hst : RTwoSt w w1.heap.size w2.heap.size p q 1 2 (w2.alloc (.cells #[.slice q.ao q.n q.c] 30)) :=
    ⟨ent_up hg2 hR1, ent_up hg2 hP1, ent_new _ _, hp1.up hg2, hq.up ((Below.refl _ _).alloc (Nat.le_refl _) _), hbw1.trans (hg2.mono hbw1.size)⟩
  have h34 : w1.heap.size < w2.heap.size := Nat.lt_of_lt_of_le (ent_lt hP1) hb2.size
  have hinit : RTwoRel w w1.heap.size w2.heap.size K (.int .i64 K) (w2.alloc (.cells #[.slice q.ao q.n q.c] 30)) :=
    ⟨K, 1, 2, p, q, rfl, hK, ⟨by simp, by omega, by have := Nat.pow_pos (n := K) (show 0 < 2 by omega); omega, hK⟩, hst⟩
  clear hst hp1 hq hP1 hR1 hbw1 hg2 hb2
  go_wp2_with fail
  generalize w1.heap.size = b3 at *
  generalize w2.heap.size = b4 at *
  go_loopw [0] (fun kv wr => RTwoRel w b3 b4 K kv wr) (fun kv _ => (intOf kv).toNat)
  case atStart => exact hinit
  case round =>
    clear hinit
    obtain ⟨k, a, b, sa, sb, rfl, hk, hN, hst⟩ := hrel
    have hbd := hN.bounds
    have hsa := refs_bound hst.2.2.2.1 hbd.1 hK
    have hsb := refs_bound hst.2.2.2.2.1 hbd.2.1 hK
    clear hbd
    have hA := ent_cell hst.2.1 0
    have hAf := ent_frozen hst.2.1 0
    have hB := ent_cell hst.2.2.1 0
    have hBf := ent_frozen hst.2.2.1 0
    have HN := Lib.hid hN; clear hN
    by_cases hk0 : 0 < k
    · by_cases ho : k % 2 = 1
      · have hoI : (((k : Int) % 2) == 1) = true := beq_iff_eq.2 (by omega)
        by_cases hk1 : 1 < k
        · have HN' := Lib.hid (HN.out.odd ho hk1)
          clear ho
          go_upto_region 7 with (go_at_call 30; refine (rmul_spec hst.2.2.2.1 hst.2.2.2.2.1 (by omega) (by omega)).mono ?_; rintro e w5 ⟨u, rfl, hu, hun, hb5⟩; have hS := hst.up hb5; have hA5 := ent_cell hS.2.1 0; have hA5f := ent_frozen hS.2.1 0)
          have hS2 := hS.setA hu h3 h34
          clear hA5 hA5f hA hAf hB hBf
          generalize w5.setCell ⟨b3, 0, none⟩ (.slice u.ao u.n u.c) = Y at *
          have hB := ent_cell hS2.2.2.1 0
          go_wp2_with (go_at_call 30; refine (rmul_spec hS2.2.2.2.2.1 hS2.2.2.2.2.1 (by omega) (by omega)).mono ?_; rintro e w6 ⟨v, rfl, hv, hvn, hb6⟩; have hS3 := hS2.up hb6; have hB6 := ent_cell hS3.2.2.1 0; have hB6f := ent_frozen hS3.2.2.1 0)
          go_roundw
          case rel => exact ⟨k / 2, a * b, b * b, u, v, by go_num, by omega, HN'.out, hS3.setB hv h3 h34⟩
          case measure => simp [intOf]; omega
        · obtain rfl : k = 1 := by omega
          have HN' := Lib.hid HN.out.one
          clear ho
          go_wp2_with (go_at_call 30; refine (rmul_spec hst.2.2.2.1 hst.2.2.2.2.1 (by omega) (by omega)).mono ?_; rintro e w5 ⟨u, rfl, hu, hun, hb5⟩; have hS := hst.up hb5; have hA5 := ent_cell hS.2.1 0; have hA5f := ent_frozen hS.2.1 0)
          go_roundw
          case rel => exact ⟨0, a * b, b, u, sb, by go_num, by omega, HN'.out, hS.setA hu h3 h34⟩
          case measure => simp [intOf]
      · have hoI : (((k : Int) % 2) == 1) = false := beq_eq_false_iff_ne.2 (by omega)
        have hk1 : 1 < k := by omega
        have HN' := Lib.hid (HN.out.even (by omega) hk1)
        clear ho
        go_wp2_with (go_at_call 30; refine (rmul_spec hst.2.2.2.2.1 hst.2.2.2.2.1 (by omega) (by omega)).mono ?_; rintro e w6 ⟨v, rfl, hv, hvn, hb6⟩; have hS3 := hst.up hb6; have hB6 := ent_cell hS3.2.2.1 0; have hB6f := ent_frozen hS3.2.2.1 0)
        go_roundw
        case rel => exact ⟨k / 2, a, b * b, sa, v, by go_num, by omega, HN'.out, hS3.setB hv h3 h34⟩
        case measure => simp [intOf]; omega
    · have hk00 : k = 0 := by omega
      subst hk00
      have hval : a = 2 ^ K := by have := HN.out.1; simpa using this
      have HV := Lib.hid hval; clear hval
      have hR := ent_cell hst.1 0
      have hRf := ent_frozen hst.1 0
      go_wp2
      refine bodyPost_ret (v := .agg #[.slice sa.ao sa.n sa.c]) (by simp [results, Try.results20, go_sem, hR]) rfl ⟨sa, rfl, ?_, hsa, hst.2.2.2.2.2.setCell (by simp) _⟩
      rw [← HV.out]
      exact hst.2.2.2.1.kp ((Kp.refl _).setCell (a := ⟨w.heap.size, 0, none⟩) hst.1 (by decide) _)

end Go.Proofs.Ytahfnbbdhhehhaa
