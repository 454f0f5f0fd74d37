
/- The reference's powers of two, up to 9000. -/
import Derived.Test.YthjhcddkdplegaaProg
import Derived.Test.YthjhcddkdplegaaRefX
import Derived.Test.YthjhcddkdplegaaPn
import Derived.Test.YthjhcddkdplegaaRefK
import Derived.Test.YthjhcddkdplegaaPr
import Derived.Deep.DeepCutAuto
import Derived.Deep.LoopGhost
set_option linter.unusedSimpArgs false
set_option linter.unusedVariables false
namespace Go.Proofs.Ythjhcddkdplegaa
open Go.RowKit

/-- The powers' numbers. -/
def TwoM (K k a b : Nat) : Prop := a * b ^ k = 2 ^ K ∧ 0 < b ∧ b ≤ 2 * 2 ^ K ∧ K ≤ 9000

theorem TwoM.bounds {K k a b : Nat} (h : TwoM K k a b) : a ≤ 2 * 2 ^ K ∧ b ≤ 2 * 2 ^ K ∧ b ^ k ≤ 2 ^ K ∧ 0 < a := by
  obtain ⟨h1, h2, h3, h4⟩ := h
  have h6 : 0 < b ^ k := Nat.pow_pos h2
  have h7 : 0 < 2 ^ K := Nat.pow_pos (by omega)
  have h8 : 0 < a := by
    rcases Nat.eq_zero_or_pos a with e | e
    · rw [e, Nat.zero_mul] at h1
      omega
    · exact e
  have h9 : a * 1 ≤ a * b ^ k := Nat.mul_le_mul_left _ h6
  have h10 : 1 * b ^ k ≤ a * b ^ k := Nat.mul_le_mul_right _ h8
  exact ⟨by omega, by omega, by omega, h8⟩

theorem TwoM.odd {K k a b : Nat} (h : TwoM K k a b) (ho : k % 2 = 1) (hk : 1 < k) : TwoM K (k / 2) (a * b) (b * b) := by
  have hb := h.bounds
  obtain ⟨h1, h2, h3, h4⟩ := h
  have e : k = 2 * (k / 2) + 1 := by omega
  refine ⟨?_, Nat.mul_pos h2 h2, ?_, h4⟩
  · rw [← h1]
    conv => rhs; rw [e, Nat.pow_succ, Nat.pow_mul]
    rw [show b ^ 2 = b * b by rw [Nat.pow_succ, Nat.pow_one]]
    grind
  · have : b ^ 2 ≤ b ^ k := Nat.pow_le_pow_right h2 (by omega)
    rw [show b ^ 2 = b * b by rw [Nat.pow_succ, Nat.pow_one]] at this
    omega
theorem TwoM.one {K a b : Nat} (h : TwoM K 1 a b) : TwoM K 0 (a * b) b := by
  obtain ⟨h1, h2, h3, h4⟩ := h
  exact ⟨by simpa using h1, h2, h3, h4⟩
theorem TwoM.even {K k a b : Nat} (h : TwoM K k a b) (he : k % 2 = 0) (hk : 1 < k) : TwoM K (k / 2) a (b * b) := by
  have hb := h.bounds
  obtain ⟨h1, h2, h3, h4⟩ := h
  have e : k = 2 * (k / 2) := by omega
  refine ⟨?_, Nat.mul_pos h2 h2, ?_, h4⟩
  · rw [← h1]
    conv => rhs; rw [e, Nat.pow_mul]
    rw [show b ^ 2 = b * b by rw [Nat.pow_succ, Nat.pow_one]]
  · have : b ^ 2 ≤ b ^ k := Nat.pow_le_pow_right h2 (by omega)
    rw [show b ^ 2 = b * b by rw [Nat.pow_succ, Nat.pow_one]] at this
    omega

def RTwoRem (w : World) (b3 b4 K : Nat) (kv : Value) (wr : World) : Prop := ∃ (k a b : Nat) (sa sb : Sl), kv = .int .i64 k ∧ k ≤ 9000 ∧ TwoM K k a b ∧ RTwoSt w b3 b4 sa sb a b wr

theorem refs_bound9 {w : World} {s : Sl} {x K : Nat} (h : RefS w s x) (hx : x ≤ 2 * 2 ^ K) (hK : K ≤ 9000) : s.n ≤ 901 := by
  have h9 : ∀ k : Nat, k = 901 → s.n ≤ k := fun k hk => h.n_bound (k := k) (Nat.lt_of_le_of_lt hx (two_lt (by omega)))
  exact h9 901 rfl

set_option maxHeartbeats 1600000 in
theorem rtwo9_spec (K : Nat) (w : World) (hK : K ≤ 9000) :
    Calls Try.prog 60 #[.int .i64 (K : Int)] w fun e w' =>
      ∃ u : Sl, e = .returned (.agg #[.slice u.ao u.n u.c]) ∧ RefS w' u (2 ^ K) ∧ u.n ≤ 901 ∧ Below w.heap.size w w' := by
  have hE := ents1 w (.cells #[.slice none 0 0] 36)
  have hbx : Below w.heap.size w _ := (Below.refl w.heap.size w).alloc (Nat.le_refl _) (.cells #[.slice none 0 0] 36)
  go_enter Try.func60, Try.ntmps60
  go_wp2_with fail
  refine (rof_v 1 _ _ rfl (by omega)).mono ?_
  rintro e w1 ⟨p, rfl, hp, hpn, hb1⟩
  have hg1 : Below (w.alloc (.cells #[.slice none 0 0] 36)).heap.size (w.alloc (.cells #[.slice none 0 0] 36)) (w1.alloc (.cells #[.slice p.ao p.n p.c] 36)) := hb1.alloc hb1.size _
  have hR1 := ent_up hg1 hE.1
  have hP1 := ent_new w1 (.cells #[.slice p.ao p.n p.c] 36)
  have hp1 := hp.up ((Below.refl _ _).alloc (Nat.le_refl _) (.cells #[.slice p.ao p.n p.c] 36))
  have hbw1 := hbx.trans (hg1.mono hbx.size)
  have h3 : w.heap.size < w1.heap.size := by have := hb1.size; simp at this; omega
  clear hp hb1 hg1 hbx hE
  go_wp2_with fail
  generalize w1.alloc (.cells #[.slice p.ao p.n p.c] 36) = W1 at *
  refine (rof_v 2 _ _ rfl (by omega)).mono ?_
  rintro e w2 ⟨q, rfl, hq, hqn, hb2⟩
  have hg2 : Below W1.heap.size W1 (w2.alloc (.cells #[.slice q.ao q.n q.c] 36)) := hb2.alloc hb2.size _
  have hst : RTwoSt w w1.heap.size w2.heap.size p q 1 2 (w2.alloc (.cells #[.slice q.ao q.n q.c] 36)) :=
    ⟨ent_up hg2 hR1, ent_up hg2 hP1, ent_new _ _, hp1.up hg2, hq.up ((Below.refl _ _).alloc (Nat.le_refl _) _), hbw1.trans (hg2.mono hbw1.size)⟩
  have h34 : w1.heap.size < w2.heap.size := Nat.lt_of_lt_of_le (ent_lt hP1) hb2.size
  have hinit : RTwoRem w w1.heap.size w2.heap.size K (.int .i64 K) (w2.alloc (.cells #[.slice q.ao q.n q.c] 36)) :=
    ⟨K, 1, 2, p, q, rfl, hK, ⟨by simp, by omega, by have := Nat.pow_pos (n := K) (show 0 < 2 by omega); omega, hK⟩, hst⟩
  clear hst hp1 hq hP1 hR1 hbw1 hg2 hb2
  go_wp2_with fail
  generalize w1.heap.size = b3 at *
  generalize w2.heap.size = b4 at *
  go_loopw [0] (fun kv wr => RTwoRem w b3 b4 K kv wr) (fun kv _ => (intOf kv).toNat)
  case atStart => exact hinit
  case round =>
    clear hinit
    obtain ⟨k, a, b, sa, sb, rfl, hk, hN, hst⟩ := hrel
    have hbd := hN.bounds
    have hsa := refs_bound9 hst.2.2.2.1 hbd.1 hK
    have hsb := refs_bound9 hst.2.2.2.2.1 hbd.2.1 hK
    clear hbd
    have hA := ent_cell hst.2.1 0
    have hAf := ent_frozen hst.2.1 0
    have hB := ent_cell hst.2.2.1 0
    have hBf := ent_frozen hst.2.2.1 0
    have HN := Lib.hid hN; clear hN
    by_cases hk0 : 0 < k
    · by_cases ho : k % 2 = 1
      · have hoI : (((k : Int) % 2) == 1) = true := beq_iff_eq.2 (by omega)
        by_cases hk1 : 1 < k
        · have HN' := Lib.hid (HN.out.odd ho hk1)
          clear ho
          go_upto_region 7 with (go_at_call 74; refine (rmul_spec hst.2.2.2.1 hst.2.2.2.2.1 (by omega) (by omega)).mono ?_; rintro e w5 ⟨u, rfl, hu, hun, hb5⟩; have hS := hst.up hb5; have hA5 := ent_cell hS.2.1 0; have hA5f := ent_frozen hS.2.1 0)
          have hS2 := hS.setA hu h3 h34
          clear hA5 hA5f hA hAf hB hBf
          generalize w5.setCell ⟨b3, 0, none⟩ (.slice u.ao u.n u.c) = Y at *
          have hB := ent_cell hS2.2.2.1 0
          go_wp2_with (go_at_call 74; refine (rmul_spec hS2.2.2.2.2.1 hS2.2.2.2.2.1 (by omega) (by omega)).mono ?_; rintro e w6 ⟨v, rfl, hv, hvn, hb6⟩; have hS3 := hS2.up hb6; have hB6 := ent_cell hS3.2.2.1 0; have hB6f := ent_frozen hS3.2.2.1 0)
          go_roundw
          case rel => exact ⟨k / 2, a * b, b * b, u, v, by go_num, by omega, HN'.out, hS3.setB hv h3 h34⟩
          case measure => simp [intOf]; omega
        · obtain rfl : k = 1 := by omega
          have HN' := Lib.hid HN.out.one
          clear ho
          go_wp2_with (go_at_call 74; refine (rmul_spec hst.2.2.2.1 hst.2.2.2.2.1 (by omega) (by omega)).mono ?_; rintro e w5 ⟨u, rfl, hu, hun, hb5⟩; have hS := hst.up hb5; have hA5 := ent_cell hS.2.1 0; have hA5f := ent_frozen hS.2.1 0)
          go_roundw
          case rel => exact ⟨0, a * b, b, u, sb, by go_num, by omega, HN'.out, hS.setA hu h3 h34⟩
          case measure => simp [intOf]
      · have hoI : (((k : Int) % 2) == 1) = false := beq_eq_false_iff_ne.2 (by omega)
        have hk1 : 1 < k := by omega
        have HN' := Lib.hid (HN.out.even (by omega) hk1)
        clear ho
        go_wp2_with (go_at_call 74; refine (rmul_spec hst.2.2.2.2.1 hst.2.2.2.2.1 (by omega) (by omega)).mono ?_; rintro e w6 ⟨v, rfl, hv, hvn, hb6⟩; have hS3 := hst.up hb6; have hB6 := ent_cell hS3.2.2.1 0; have hB6f := ent_frozen hS3.2.2.1 0)
        go_roundw
        case rel => exact ⟨k / 2, a, b * b, sa, v, by go_num, by omega, HN'.out, hS3.setB hv h3 h34⟩
        case measure => simp [intOf]; omega
    · have hk00 : k = 0 := by omega
      subst hk00
      have hval : a = 2 ^ K := by have := HN.out.1; simpa using this
      have HV := Lib.hid hval; clear hval
      have hR := ent_cell hst.1 0
      have hRf := ent_frozen hst.1 0
      go_wp2
      refine bodyPost_ret (v := .agg #[.slice sa.ao sa.n sa.c]) (by simp [results, Try.results60, go_sem, hR]) rfl ⟨sa, rfl, ?_, hsa, hst.2.2.2.2.2.setCell (by simp) _⟩
      rw [← HV.out]
      exact hst.2.2.2.1.kp ((Kp.refl _).setCell (a := ⟨w.heap.size, 0, none⟩) hst.1 (by decide) _)


section
variable {Γ : List Fact} {L M x y : Nat}
theorem r_two9 (K : Nat) (hK : K ≤ 9000) : PCalls tb Try.prog 60 [.int .i64 (K : Int)] Γ (RPost 901 (2 ^ K)) :=
  ⟨⟨_, Try.func60, by kernel_rfl, by kernel_rfl⟩, fun I w hd hh => by
    refine (rtwo9_spec K w hK).mono ?_
    rintro e w' ⟨u, rfl, hu, hn, hb⟩
    exact ⟨_, _, rfl, ⟨u, rfl, rfl⟩, hb, holds1 (hu.fact hd hb hn)⟩⟩
end
end Go.Proofs.Ythjhcddkdplegaa
