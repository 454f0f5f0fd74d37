
/- The reference's floor and nearest whole number, by bits. -/
import Derived.Test.YtabpaiboodllbaaGreatRv
set_option linter.unusedSimpArgs false
set_option linter.unusedVariables false
namespace Go.Proofs.YtabpaiboodllbaaGreat
open Go.RowKit Go.IntWalk

theorem mul_b {A F : Nat} {x y : Rat} (h1 : -(tw A) ≤ x) (h2 : x ≤ tw A) (h3 : 0 ≤ y) (h4 : y ≤ tw F) : -(tw (A + F)) ≤ x * y ∧ x * y ≤ tw (A + F) := by
  have p1 := tw_pos A
  rw [tw_add]
  have q1 := Rat.mul_nonneg (show 0 ≤ tw A - x by grind) h3
  have q2 := Rat.mul_nonneg (show 0 ≤ tw A + x by grind) h3
  have q3 := Rat.mul_nonneg (Rat.le_of_lt p1) (show 0 ≤ tw F - y by grind)
  constructor <;> grind
theorem bounds_b {A c : Nat} {x : Rat} {r : Int} (hr : 0 ≤ r) (hc : r.natAbs ≤ 2 ^ c) (h1 : -(tw A) ≤ x) (h2 : x ≤ tw A) (k : Nat) : -(tw (A + (c + 2))) ≤ blo x r k ∧ bhi x r k ≤ tw (A + (c + 2)) := by
  obtain ⟨a1, a2⟩ := apx_le hr hc k
  obtain ⟨g1, g2⟩ := rhi_le r k
  have t1 := tk_le1 k
  have b1 := mul_b h1 h2 (show 0 ≤ rhi r k by grind) (show rhi r k ≤ tw (c + 2) by grind)
  have b2 := mul_b h1 h2 (show 0 ≤ rlo r k by rw [rlo_apx]; exact a1) (show rlo r k ≤ tw (c + 2) by rw [rlo_apx]; grind)
  unfold blo bhi
  split <;> exact ⟨by first | exact b1.1 | exact b2.1, by first | exact b2.2 | exact b1.2⟩
theorem qfl_b {y : Rat} {B : Nat} (h1 : -(tw B) ≤ y) : -(2 ^ B : Nat) ≤ qfl y := by
  by_cases h : -(2 ^ B : Nat) ≤ qfl y
  · exact h
  · have h2 := qfl_lt y
    have h3 : ((qfl y + 1 : Int) : Rat) ≤ ((-(2 ^ B : Nat) : Int) : Rat) := Rat.intCast_le_intCast.2 (by omega)
    rw [Rat.intCast_add, Rat.intCast_neg] at h3
    have c1 : ((1 : Int) : Rat) = 1 := rfl
    rw [c1] at h3
    unfold tw at h1
    grind
theorem qfl_t {y : Rat} {B : Nat} (h1 : y ≤ tw B) : qfl y ≤ (2 ^ B : Nat) := by
  by_cases h : qfl y ≤ (2 ^ B : Nat)
  · exact h
  · have h2 := qfl_le y
    have h3 : (((2 ^ B : Nat) + 1 : Int) : Rat) ≤ ((qfl y : Int) : Rat) := Rat.intCast_le_intCast.2 (by omega)
    rw [Rat.intCast_add] at h3
    have c1 : ((1 : Int) : Rat) = 1 := rfl
    rw [c1] at h3
    unfold tw at h1
    grind
/-- How far the search for the floor goes. -/
theorem flo_b {S : Sn} {A c : Nat} (hm : 0 ≤ S.m) (hn : 0 ≤ S.n) (cm : S.m.natAbs ≤ 2 ^ c) (cn : S.n.natAbs ≤ 2 ^ c) (h : (-(tw A) ≤ S.p ∧ S.p ≤ tw A) ∧ (-(tw A) ≤ S.q ∧ S.q ≤ tw A) ∧ (-(tw A) ≤ S.r ∧ S.r ≤ tw A) ∧ (-(tw A) ≤ S.s ∧ S.s ≤ tw A)) (k : Nat) {B : Nat} (hB : A + 2 * c + 4 = B) :
    -(2 ^ B : Nat) ≤ qfl (S.lo k) ∧ qfl (S.hi k) ≤ (2 ^ B : Nat) := by
  subst hB
  have b0 := bounds_b (c := 0) (r := 1) (by decide) (by decide) h.1.1 h.1.2 k
  have b1 := bounds_b hm cm h.2.1.1 h.2.1.2 k
  have b2 := bounds_b hn cn h.2.2.1.1 h.2.2.1.2 k
  have b3 := bounds_b (Int.mul_nonneg hm hn) (mul_bits cm cn) h.2.2.2.1 h.2.2.2.2 k
  have m0 := tw_mono (show A + (0 + 2) ≤ A + 2 * c + 2 by omega)
  have m1 := tw_mono (show A + (c + 2) ≤ A + 2 * c + 2 by omega)
  have m3 := tw_mono (show A + (2 * c + 2) ≤ A + 2 * c + 2 by omega)
  have e : tw (A + 2 * c + 4) = tw (A + 2 * c + 2) * 4 := by rw [show A + 2 * c + 4 = A + 2 * c + 2 + 2 by omega, tw_add]; rfl
  have c0 : ((0 : Int) : Rat) = 0 := rfl
  refine ⟨qfl_b ?_, qfl_t ?_⟩
  · rw [e]
    unfold Sn.lo
    rw [c0]
    grind
  · rw [e]
    unfold Sn.hi
    rw [c0]
    grind
theorem half_md : md 0 1 (Rat.divInt 1 2) := by
  have h1 : tw 0 = 1 := rfl
  refine ⟨?_, ?_, ?_⟩
  · rw [h1]; decide +kernel
  · rw [h1]; decide +kernel
  · decide +kernel
theorem fl_b {S : Sn} (hm : 0 ≤ S.m) (hn : 0 ≤ S.n) {B : Nat} (h1 : -(2 ^ B : Nat) ≤ qfl (S.lo 8)) (h2 : qfl (S.hi 8) ≤ (2 ^ B : Nat)) : S.fl.natAbs ≤ 2 ^ B := by
  have := fl_ge S hm hn 8
  have := fl_le S hm hn 8
  omega
section
variable {fin : VS → List Fact → Prop} {Γ : List Fact} {L M K : Nat}
theorem r_floorE (x : Tw) {S : Sn} {A D : Nat} [Has (TF x) (L, S) Γ] (h : mdS A D S) (hm : 0 ≤ S.m) (hn : 0 ≤ S.n) (cm : S.m.natAbs ≤ 2 ^ 63) (cn : S.n.natAbs ≤ 2 ^ 63) (hE : 24 * D + 4 * A + 1300 < 8192) (hA : A ≤ 1800) (hL : L ≤ 3000 := by omega) :
    PCalls tb Tryz.prog 16 [tv x] Γ (YPost ((A + 130) / 13 + 1) S.fl) := by
  have o0 : A + 2 * 63 + 4 = A + 130 := by omega
  have o1 : max A (A + 130) + 1 ≤ A + 131 := by omega
  have o2 : D + 0 ≤ D := by omega
  have o3 : A ≤ A + 131 := by omega
  have o4 : 24 * D + 9 * 63 + 4 * (A + 131) + 40 < 8192 := Nat.lt_of_le_of_lt (by omega) hE
  have o5 : A + 130 + 1 < 2000 := by omega
  obtain ⟨b1, b2⟩ := flo_b hm hn cm cn ⟨h.1.b, h.2.1.b, h.2.2.1.b, h.2.2.2.b⟩ 8 o0
  refine r_floorx x (A + 130) hm hn b1 b2 o5 (fun q hq => ?_) hL
  have k1 : md (A + 131) D (S.lessr (q : Rat)).p := (h.1.sub (md.int hq)).mono o1 o2
  have k2 : mdS (A + 131) D (S.lessr (q : Rat)) := ⟨k1, h.2.1.mono o3 o2, h.2.2.1.mono o3 o2, h.2.2.2.mono o3 o2⟩
  have k3 := sepS (S := S.lessr (q : Rat)) k2 hm hn cm cn o4
  exact k3
theorem r_nearE (x : Tw) {S : Sn} {A D : Nat} [Has (TF x) (L, S) Γ] (h : mdS A D S) (hm : 0 ≤ S.m) (hn : 0 ≤ S.n) (cm : S.m.natAbs ≤ 2 ^ 63) (cn : S.n.natAbs ≤ 2 ^ 63) (hE : 24 * D + 4 * A + 1300 < 8192) (hA : A ≤ 1800) (hL : L ≤ 3000 := by omega) :
    PCalls tb Tryz.prog 18 [tv x] Γ (YPost ((A + 130) / 13 + 8) S.nr) := by
  have o0 : A + 2 * 63 + 4 = A + 130 := by omega
  have o1 : max A (A + 130) + 1 ≤ A + 131 := by omega
  have o2 : D + 0 ≤ D := by omega
  have o3 : A ≤ A + 131 := by omega
  have o4 : 24 * D + 9 * 63 + 4 * (A + 131) + 40 < 8192 := Nat.lt_of_le_of_lt (by omega) hE
  have o5 : A + 130 + 1 < 2000 := by omega
  have o6 : max (A + 131) 0 + 1 ≤ A + 132 := by omega
  have o7 : A + 131 ≤ A + 132 := by omega
  have o8 : D ≤ D + 1 := by omega
  have o9 : 24 * (D + 1) + 9 * 63 + 4 * (A + 132) + 40 < 8192 := Nat.lt_of_le_of_lt (by omega) hE
  obtain ⟨b1, b2⟩ := flo_b hm hn cm cn ⟨h.1.b, h.2.1.b, h.2.2.1.b, h.2.2.2.b⟩ 8 o0
  have hq : ∀ q : Int, q.natAbs ≤ 2 ^ (A + 130) → mdS (A + 131) D (S.lessr (q : Rat)) := fun q hq => ⟨(h.1.sub (md.int hq)).mono o1 o2, h.2.1.mono o3 o2, h.2.2.1.mono o3 o2, h.2.2.2.mono o3 o2⟩
  refine r_nearx x (A + 130) hm hn b1 b2 o5 (fun q hq' => sepS (S := S.lessr (q : Rat)) (hq q hq') hm hn cm cn o4) ?_ hL
  have g := hq S.fl (fl_b hm hn b1 b2)
  exact sepS (S := (S.lessr (S.fl : Rat)).lessr (Rat.divInt 1 2)) (A := A + 132) (D := D + 1) ⟨(g.1.sub half_md).mono o6 (Nat.le_refl _), g.2.1.mono o7 o8, g.2.2.1.mono o7 o8, g.2.2.2.mono o7 o8⟩ hm hn cm cn o9
theorem sep_r2' {x y : Rat} {A D : Nat} (hx : md A D x) (hy : md A D y) (hE : 4 * D + 2 * A + 10 < 8192) : (r2F x y).sep := by
  unfold Sn.sep
  rw [fold_r2]
  exact sep_r2 hx hy hE
theorem r_nearR (x : Tw) {p q : Rat} {A D : Nat} [Has (TF x) (L, r2F p q) Γ] (hp : md A D p) (hq : md A D q) (hE : 4 * D + 2 * A + 60 < 8192) (hA : A ≤ 1800) (hL : L ≤ 3000 := by omega) :
    PCalls tb Tryz.prog 18 [tv x] Γ (YPost ((A + 6) / 13 + 8) (r2F p q).nr) := by
  have hm : 0 ≤ (r2F p q).m := by show (0 : Int) ≤ 2; decide
  have hn : 0 ≤ (r2F p q).n := by show (0 : Int) ≤ 0; decide
  obtain ⟨b1, b2⟩ := flo_b (S := r2F p q) (A := A) (c := 1) hm hn (by show (2 : Int).natAbs ≤ 2 ^ 1; decide) (by show (0 : Int).natAbs ≤ 2 ^ 1; decide) ⟨hp.b, hq.b, (md.zero A 0).b, (md.zero A 0).b⟩ 8 (B := A + 6) (by omega)
  have hz : ∀ z : Int, z.natAbs ≤ 2 ^ (A + 6) → md (A + 7) D (p - (z : Rat)) := fun z hz => (hp.sub (md.int hz)).mono (by omega) (by omega)
  refine r_nearx x (A + 6) hm hn b1 b2 (by omega) (fun z hz' => sep_r2' (x := p - (z : Rat)) (y := q) (hz z hz') (hq.mono (by omega) (Nat.le_refl _)) (by omega)) ?_ hL
  exact sep_r2' (x := p - ((r2F p q).fl : Rat) - Rat.divInt 1 2) (y := q) (A := A + 8) (D := D + 1) (((hz _ (fl_b hm hn b1 b2)).sub half_md).mono (by omega) (by omega)) (hq.mono (by omega) (by omega)) (by omega)
end
end Go.Proofs.YtabpaiboodllbaaGreat
