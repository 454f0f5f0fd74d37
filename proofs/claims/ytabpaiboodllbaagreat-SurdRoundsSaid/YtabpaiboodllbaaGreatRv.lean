
/- The reference's floor and nearest whole number: they are the program's. -/
import Derived.Test.YtabpaiboodllbaaGreatRu
import Derived.Test.YtabpaiboodllbaaGreatSh
import Derived.Test.YtabpaiboodllbaaGreatOe
set_option linter.unusedSimpArgs false
set_option linter.unusedVariables false
namespace Go.Proofs.YtabpaiboodllbaaGreat
open Go.RowKit Go.IntWalk

/-- The search for its sign ends. -/
def Sn.sep (S : Sn) : Prop := ¬ S.fold.nil → 0 < S.fold.lo 8192 ∨ S.fold.hi 8192 < 0
theorem lessr_v (S : Sn) (y : Rat) (k : Nat) : (S.lessr y).v k = S.v k - y := by
  unfold Sn.v v1 Sn.lessr
  grind
theorem lessr_q (S : Sn) (q : Int) : S.lessr (q : Rat) = S.lessq q := rfl
theorem sg_lo (S : Sn) (hm : 0 ≤ S.m) (hn : 0 ≤ S.n) {k : Nat} {y : Rat} (h : y ≤ S.lo k) : 0 ≤ (S.lessr y).sg := by
  have s1 := sig2 (S.lessr y) hm hn
  rcases s1 with ⟨e, _⟩ | ⟨e, _⟩ | ⟨e, e1, he1, K1, p1⟩
  · omega
  · omega
  · exfalso
    obtain ⟨g1, g2⟩ := half_pos he1
    obtain ⟨K2, p2⟩ := w_v S hm hn _ g1
    have a1 : e1 ≤ -(S.lessr y).v (max k (max K1 K2)) := p1 (max k (max K1 K2)) (by omega)
    have a2 := p2 (max k (max K1 K2)) (by omega)
    have a3 := (lo_w S hm hn (show k ≤ max k (max K1 K2) by omega)).1
    rw [lessr_v] at a1
    grind
theorem sg_hi (S : Sn) (hm : 0 ≤ S.m) (hn : 0 ≤ S.n) {k : Nat} {y : Rat} (h : S.hi k < y) : (S.lessr y).sg = -1 := by
  obtain ⟨g1, g2⟩ := half_pos (show 0 < y - S.hi k by grind)
  obtain ⟨K2, p2⟩ := w_v S hm hn _ g1
  refine (sig2 (S.lessr y) hm hn).unique (.inr (.inr ⟨rfl, _, g1, max k K2, fun j hj => ?_⟩))
  have a2 := p2 j (by omega)
  have a3 := (lo_w S hm hn (show k ≤ j by omega)).2
  show _ ≤ -(S.lessr y).v j
  rw [lessr_v]
  grind
theorem fl_ge (S : Sn) (hm : 0 ≤ S.m) (hn : 0 ≤ S.n) (k : Nat) : qfl (S.lo k) ≤ S.fl := by
  have h1 := sg_lo S hm hn (qfl_le (S.lo k))
  rw [lessr_q] at h1
  have h2 := S.fl_spec hm hn
  by_cases h : qfl (S.lo k) ≤ S.fl
  · exact h
  · have := lessq_mono S hm hn (show S.fl + 1 ≤ qfl (S.lo k) by omega)
    omega
theorem fl_le (S : Sn) (hm : 0 ≤ S.m) (hn : 0 ≤ S.n) (k : Nat) : S.fl ≤ qfl (S.hi k) := by
  have h2 := S.fl_spec hm hn
  by_cases h : S.fl ≤ qfl (S.hi k)
  · exact h
  · have h3 := qfl_lt (S.hi k)
    have h4 : ((qfl (S.hi k) + 1 : Int) : Rat) ≤ ((S.fl : Int) : Rat) := Rat.intCast_le_intCast.2 (by omega)
    rw [Rat.intCast_add] at h4
    have c1 : ((1 : Int) : Rat) = 1 := rfl
    rw [c1] at h4
    have h5 := sg_hi S hm hn (k := k) (y := ((S.fl : Int) : Rat)) (by grind)
    rw [lessr_q] at h5
    omega
theorem sg_more {S : Sn} (hm : 0 ≤ S.m) (hn : 0 ≤ S.n) {e : Rat} (he : 0 < e) (h : 0 ≤ S.sg) : (S.up e).sg = 1 := by
  have hv : ∀ k, (S.up e).v k = S.v k + e := fun k => by
    unfold Sn.v v1 Sn.up
    grind
  refine (sig2 (S.up e) hm hn).unique (.inl ⟨rfl, ?_⟩)
  have hc : Pos (fun _ => e) := ⟨e, he, 0, fun _ _ => Rat.le_refl⟩
  rcases sig2 S hm hn with ⟨_, p⟩ | ⟨_, p⟩ | ⟨e1, _⟩
  · exact (p.add hc).congr (fun k => (hv k).symm)
  · exact (hc.add_nul p).congr (fun k => by rw [hv]; grind)
  · omega
/-- The nearest whole number by the floor, as the document has it. -/
theorem nr_fl (S : Sn) (hm : 0 ≤ S.m) (hn : 0 ≤ S.n) : S.nr = if ((S.lessr (S.fl : Rat)).lessr (Rat.divInt 1 2)).sg < 0 ∨ (((S.lessr (S.fl : Rat)).lessr (Rat.divInt 1 2)).sg = 0 ∧ S.fl % 2 = 0) then S.fl else S.fl + 1 := by
  obtain ⟨f1, f2⟩ := S.fl_spec hm hn
  have hh : Rat.divInt 1 2 + Rat.divInt 1 2 = 1 := by decide +kernel
  have hp : 0 < Rat.divInt 1 2 := by decide +kernel
  have c1 : ((1 : Int) : Rat) = 1 := rfl
  have c2 : ((2 : Int) : Rat) = 2 := rfl
  have eT : (S.lessr (S.fl : Rat)).lessr (Rat.divInt 1 2) = S.half.lessq (S.fl + 1) := by
    refine Sn.ext' rfl rfl ?_ rfl rfl rfl
    simp only [Sn.lessr, Sn.half, Sn.up, Sn.lessq, Rat.intCast_add, c1]
    grind
  have e0 : S.half.lessq S.fl = (S.lessq S.fl).up (Rat.divInt 1 2) := by
    refine Sn.ext' rfl rfl ?_ rfl rfl rfl
    simp only [Sn.half, Sn.up, Sn.lessq]
    grind
  have h0 : (S.half.lessq S.fl).sg = 1 := by rw [e0]; exact sg_more (S := S.lessq S.fl) hm hn hp f1
  have h2 : (S.half.lessq (S.fl + 2)).sg < 0 := by
    have := sg_mono (S := S.half.lessq (S.fl + 2)) (T := S.lessq (S.fl + 1)) hm hn rfl rfl ⟨0, fun k _ => by
      rw [Sn.lessq_v, Sn.lessq_v, Rat.intCast_add, Rat.intCast_add, c1, c2]
      have : S.half.v k = S.v k + Rat.divInt 1 2 := by
        unfold Sn.v v1 Sn.half Sn.up
        grind
      rw [this]
      grind⟩
    omega
  rw [eT]
  unfold Sn.nr
  by_cases h1 : (S.half.lessq (S.fl + 1)).sg < 0
  · have hf : S.half.fl = S.fl := Sn.fl_unique S.half hm hn (by omega) h1
    rw [hf, if_neg (fun h => by omega), if_pos (.inl h1)]
  · have hf : S.half.fl = S.fl + 1 := Sn.fl_unique S.half hm hn (by omega) (by rw [show S.fl + 1 + 1 = S.fl + 2 by omega]; exact h2)
    rw [hf]
    by_cases h3 : (S.half.lessq (S.fl + 1)).sg = 0
    · by_cases h4 : S.fl % 2 = 0
      · rw [if_pos ⟨h3, fun e => by rw [show (S.fl + 1) % 2 = 1 by omega] at e; simp at e⟩, if_pos (.inr ⟨h3, h4⟩)]
        omega
      · rw [if_neg (fun h => h.2 (by rw [show (S.fl + 1) % 2 = 0 by omega]; rfl)), if_neg (fun h => by rcases h with h | h; omega; exact h4 h.2)]
    · rw [if_neg (fun h => h3 h.1), if_neg (fun h => by rcases h with h | h; omega; exact h3 h.1)]

theorem YF.tight {S : Int} {s : Sl} {L b : Nat} {x : Int} {I : Blk} {w : World} (h : (YF S s (L, x)).p I w) (hx : x.natAbs ≤ 2 ^ b) : (YF S s (b / 13 + 1, x)).p I w := by
  obtain ⟨⟨⟨l, hi, hd, hn, hv⟩, h2, h3⟩, h4⟩ := h
  refine ⟨⟨⟨l, hi, hd, hn, hv⟩, h2, ?_⟩, h4⟩
  have hlt : x.natAbs < 10000 ^ (b / 13 + 1) := by
    have e1 : 2 ^ b < 2 ^ (13 * (b / 13 + 1)) := Nat.pow_lt_pow_right (by omega) (by omega)
    have e2 : 2 ^ (13 * (b / 13 + 1)) = (2 ^ 13) ^ (b / 13 + 1) := Nat.pow_mul 2 13 _
    have e3 : (2 ^ 13) ^ (b / 13 + 1) ≤ 10000 ^ (b / 13 + 1) := Nat.pow_le_pow_left (by decide) _
    omega
  have := hn.len_of_lt (B := 10000) (k := b / 13 + 1) (by decide) (by rw [hv]; exact hlt)
  have := hi.1
  simp only
  omega

section
variable {fin : VS → List Fact → Prop} {Γ : List Fact} {L M K : Nat}
theorem entTY {S : Int} {s : Sl} {z : Int} {k : Nat} [h : Has (YF S s) (L, z) Γ] (hq : z.natAbs ≤ 2 ^ k) {I : Blk} {w : World} (hh : Holds Γ I w) : (YF S s (k / 13 + 1, z)).p I w := YF.tight (h.p hh) hq
set_option maxHeartbeats 8000000 in
theorem r_floorx (x : Tw) {S : Sn} [Has (TF x) (L, S) Γ] (B : Nat) (hm : 0 ≤ S.m) (hn : 0 ≤ S.n) (hlo : -(2 ^ B : Nat) ≤ qfl (S.lo 8)) (hhi : qfl (S.hi 8) ≤ (2 ^ B : Nat)) (hB : B + 1 < 2000) (hsep : ∀ q : Int, q.natAbs ≤ 2 ^ B → (S.lessr (q : Rat)).sep) (hL : L ≤ 3000 := by omega) :
    PCalls tb Tryz.prog 16 [tv x] Γ (YPost (B / 13 + 1) S.fl) := by
  obtain ⟨N, hN⟩ : ∃ N : Nat, N = 2000 := ⟨_, rfl⟩
  have hBN : B + 1 < N := by omega
  have f1 := fl_ge S hm hn 8
  have f2 := fl_le S hm hn 8
  refine PCalls.of_W tbOk Tryz.func16 rfl (by kernel_rfl) ?_
  refine W.cl [] (by kernel_rfl) (r_between x 8 (by omega) hm hn) ?_
  rintro _ _ ⟨S1, s1, R1, t1, V1, v1, W1, w1, rfl, rfl⟩
  refine W.cl [] (by kernel_rfl) (s_floor S1 s1 R1 t1) ?_
  rintro _ _ ⟨S2, t2, rfl, rfl⟩
  refine W.cl [] (by kernel_rfl) (s_floor V1 v1 W1 w1) ?_
  rintro _ _ ⟨S3, t3, rfl, rfl⟩
  refine W.lp [] [7] (fun a : Nat × (Int × Sl × Int) × (Int × Sl × Int) => [(7, .int .i64 (a.1 : Int))]) (fun a => [(6, [.int .i64 a.2.2.1, .slice a.2.2.2.1.ao a.2.2.2.1.n a.2.2.2.1.c]), (5, [.int .i64 a.2.1.1, .slice a.2.1.2.1.ao a.2.1.2.1.n a.2.1.2.1.c])])
    (fun a => [TF x (L, S), YF a.2.1.1 a.2.1.2.1 (B / 13 + 1, a.2.1.2.2), YF a.2.2.1 a.2.2.2.1 (B / 13 + 1, a.2.2.2.2)]) (fun a => a.1 ≤ N ∧ -(2 ^ B : Nat) ≤ a.2.1.2.2 ∧ a.2.1.2.2 ≤ S.fl ∧ S.fl ≤ a.2.2.2.2 ∧ a.2.2.2.2 ≤ (2 ^ B : Nat) ∧ (a.2.2.2.2 - a.2.1.2.2).toNat < 2 ^ (N - a.1)) (fun a => N - a.1)
    (0, (S2, t2, qfl (S.lo 8)), (S3, t3, qfl (S.hi 8))) (by kernel_rfl) (by kernel_rfl) ⟨by simp only; omega, hlo, f1, f2, hhi, by
      simp only
      have e1 : 2 ^ (B + 1) ≤ 2 ^ (N - 0) := Nat.pow_le_pow_right (by omega) (by omega)
      have e2 : 2 ^ (B + 1) = 2 * 2 ^ B := by rw [Nat.pow_succ, Nat.mul_comm]
      have e3 : 2 ^ (B + 1) < 2 ^ (N - 0) := Nat.pow_lt_pow_right (by omega) (by omega)
      omega⟩ (fun I w hd hh => Holds.cons (Has.p (k := TF x) (a := (L, S)) inferInstance hh) (Holds.cons (entTY (S := S2) (s := t2) (z := qfl (S.lo 8)) (by omega) hh) (holds1 (entTY (S := S3) (s := t3) (z := qfl (S.hi 8)) (by omega) hh)))) ?_
  rintro ⟨i, ⟨Sa, ta, f⟩, ⟨Sb, u, t⟩⟩ R ⟨hi, i1, i2, i3, i4, i5⟩ close
  simp only at hi i1 i2 i3 i4 i5
  by_cases hlt : i < N
  · refine W.dt [] 21 (decide ((i : Int) < 2000)) (by kernel_rfl) (by rw [decide_eq_true_iff]; omega) ?_
    refine W.cl [21] (by kernel_rfl) (p_ycmp Sa ta Sb u) ?_
    rintro _ _ ⟨rfl, rfl⟩
    by_cases hft : f < t
    · have hpow : 2 ^ (N - i) = 2 * 2 ^ (N - (i + 1)) := by rw [show N - i = N - (i + 1) + 1 by omega, Nat.pow_succ, Nat.mul_comm]
      rw [hpow] at i5
      have m1 : f + 1 ≤ (f + t + 1) / 2 := by omega
      have m2 : (f + t + 1) / 2 ≤ t := by omega
      have hmid : ((f + t + 1) / 2).natAbs ≤ 2 ^ B := by omega
      refine W.dt [21] 26 (decide (cmpZ f t < 0)) (by kernel_rfl) (by rw [decide_eq_true_iff]; unfold cmpZ; rw [if_pos hft]; decide) ?_
      refine W.cl [26] (by kernel_rfl) (p_yadd Sa ta Sb u) ?_
      rintro _ _ ⟨S6, t6, rfl, rfl⟩
      refine W.cl [] (by kernel_rfl) (p_yof 1 (by omega) (by omega)) ?_
      rintro _ _ ⟨S7, t7, rfl, rfl⟩
      refine W.cl [] (by kernel_rfl) (p_yadd S6 t6 S7 t7) ?_
      rintro _ _ ⟨S8, t8, rfl, rfl⟩
      refine W.cl [] (by kernel_rfl) (p_yof 2 (by omega) (by omega)) ?_
      rintro _ _ ⟨S9, t9, rfl, rfl⟩
      refine W.cl [] (by kernel_rfl) (p_yfloor S8 t8 S9 t9 (by omega)) ?_
      rintro _ _ ⟨S10, t10, R10, r10, rfl, rfl⟩
      refine W.cl [] (by kernel_rfl) (r_whole S10 t10) ?_
      rintro _ _ ⟨S11, s11, R11, t11, rfl, rfl⟩
      refine W.cl [] (by kernel_rfl) (r_lessx x S11 s11 R11 t11) ?_
      rintro _ _ ⟨Y12, rfl, rfl⟩
      refine W.cl [] (by kernel_rfl) (r_sgn (S := S.lessr (((f + t + 1) / 2 : Int) : Rat)) Y12 hm hn (hsep _ hmid)) ?_
      rintro _ _ ⟨rfl, rfl⟩
      rw [lessr_q]
      by_cases hs : (S.lessq ((f + t + 1) / 2)).sg < 0
      · have hfl : S.fl ≤ (f + t + 1) / 2 - 1 := by
          by_cases h : S.fl ≤ (f + t + 1) / 2 - 1
          · exact h
          · have := lessq_mono S hm hn (show (f + t + 1) / 2 ≤ S.fl by omega)
            have := (S.fl_spec hm hn).1
            omega
        refine W.dt [] 44 (decide ((S.lessq ((f + t + 1) / 2)).sg < 0)) (by kernel_rfl) (by rw [decide_eq_true_iff]; exact hs) ?_
        refine W.cl [44] (by kernel_rfl) (p_yof 1 (by omega) (by omega)) ?_
        rintro _ _ ⟨S14, t14, rfl, rfl⟩
        refine W.cl [] (by kernel_rfl) (p_ysub S10 t10 S14 t14) ?_
        rintro _ _ ⟨S15, t15, rfl, rfl⟩
        have hw : IntKind.i64.wrap ((i : Int) + 1) = ((i + 1 : Nat) : Int) := by
          rw [i64_in _ (by omega)]
          omega
        refine close [] _ _ (i + 1, (Sa, ta, f), (S15, t15, (f + t + 1) / 2 - 1)) (by kernel_rfl) (by simp only; rw [← hw]; kernel_rfl) ⟨by simp only; omega, i1, i2, hfl, by simp only; omega, by simp only; omega⟩ (by simp only; omega) (fun I w hd hh => ?_)
        exact Holds.cons (Has.p (k := TF x) (a := (L, S)) inferInstance hh) (Holds.cons (Has.p (k := YF Sa ta) (a := (B / 13 + 1, f)) inferInstance hh) (holds1 (entTY (S := S15) (s := t15) (z := (f + t + 1) / 2 - 1) (by omega) hh)))
      · have hfl : (f + t + 1) / 2 ≤ S.fl := by
          by_cases h : (f + t + 1) / 2 ≤ S.fl
          · exact h
          · have := lessq_mono S hm hn (show S.fl + 1 ≤ (f + t + 1) / 2 by omega)
            have := (S.fl_spec hm hn).2
            omega
        refine W.df [] 44 (decide ((S.lessq ((f + t + 1) / 2)).sg < 0)) (by kernel_rfl) (by rw [decide_eq_false_iff_not]; exact hs) ?_
        have hw : IntKind.i64.wrap ((i : Int) + 1) = ((i + 1 : Nat) : Int) := by
          rw [i64_in _ (by omega)]
          omega
        refine close [44] _ _ (i + 1, (S10, t10, (f + t + 1) / 2), (Sb, u, t)) (by kernel_rfl) (by simp only; rw [← hw]; kernel_rfl) ⟨by simp only; omega, by simp only; omega, hfl, i3, i4, by simp only; omega⟩ (by simp only; omega) (fun I w hd hh => ?_)
        exact Holds.cons (Has.p (k := TF x) (a := (L, S)) inferInstance hh) (Holds.cons (entTY (S := S10) (s := t10) (z := (f + t + 1) / 2) hmid hh) (holds1 (Has.p (k := YF Sb u) (a := (B / 13 + 1, t)) inferInstance hh)))
    · refine W.df [21] 26 (decide (cmpZ f t < 0)) (by kernel_rfl) (by rw [decide_eq_false_iff_not]; unfold cmpZ; rw [if_neg hft]; split <;> omega) ?_
      exact W.r [26] (yv Sa ta) (by kernel_rfl) ⟨_, _, rfl, rfl⟩ (entY (x := f) (by omega) (by omega))
  · have hiN : i = N := by omega
    rw [show N - i = 0 by omega, Nat.pow_zero] at i5
    have hi2 : i = 2000 := by omega
    clear hN hiN
    subst hi2
    refine W.df [] 21 (decide (((2000 : Nat) : Int) < 2000)) (by kernel_rfl) (by decide) ?_
    exact W.r [26, 21] (yv Sa ta) (by kernel_rfl) ⟨_, _, rfl, rfl⟩ (entY (x := f) (by omega) (by omega))
set_option maxHeartbeats 4000000 in
theorem r_nearx (x : Tw) {S : Sn} [Has (TF x) (L, S) Γ] (B : Nat) (hm : 0 ≤ S.m) (hn : 0 ≤ S.n) (hlo : -(2 ^ B : Nat) ≤ qfl (S.lo 8)) (hhi : qfl (S.hi 8) ≤ (2 ^ B : Nat)) (hB : B + 1 < 2000) (hsep : ∀ q : Int, q.natAbs ≤ 2 ^ B → (S.lessr (q : Rat)).sep)
    (hsep2 : ((S.lessr (S.fl : Rat)).lessr (Rat.divInt 1 2)).sep) (hL : L ≤ 3000 := by omega) :
    PCalls tb Tryz.prog 18 [tv x] Γ (YPost (B / 13 + 8) S.nr) := by
  have hnr := nr_fl S hm hn
  refine PCalls.of_W tbOk Tryz.func18 rfl (by kernel_rfl) ?_
  refine W.cl [] (by kernel_rfl) (r_floorx x B hm hn hlo hhi hB hsep) ?_
  rintro _ _ ⟨S1, t1, rfl, rfl⟩   -- (S.fl)
  refine W.cl [] (by kernel_rfl) (r_whole S1 t1) ?_
  rintro _ _ ⟨S2, s2, R2, t2, rfl, rfl⟩
  refine W.cl [] (by kernel_rfl) (r_lessx x S2 s2 R2 t2) ?_
  rintro _ _ ⟨Y3, rfl, rfl⟩
  refine W.cl [] (by kernel_rfl) (s_frac 1 2 (by omega) (by omega) (by omega) (by omega)) ?_
  rintro _ _ ⟨S4, s4, R4, t4, rfl, rfl⟩
  refine W.cl [] (by kernel_rfl) (r_lessx Y3 S4 s4 R4 t4) ?_
  rintro _ _ ⟨Y5, rfl, rfl⟩
  refine W.cl [] (by kernel_rfl) (r_sgn (S := (S.lessr (S.fl : Rat)).lessr (Rat.divInt 1 2)) Y5 hm hn hsep2) ?_
  rintro _ _ ⟨rfl, rfl⟩
  refine W.cl [] (by kernel_rfl) (p_yof 2 (by omega) (by omega)) ?_
  rintro _ _ ⟨S7, t7, rfl, rfl⟩
  refine W.cl [] (by kernel_rfl) (p_yfloor S1 t1 S7 t7 (by omega)) ?_
  rintro _ _ ⟨S8, t8, R8, r8, rfl, rfl⟩
  refine W.code 999 ?_
  refine W.yr R8 r8 (by kernel_rfl) ?_
  intro hR _
  by_cases h1 : ((S.lessr (S.fl : Rat)).lessr (Rat.divInt 1 2)).sg < 0
  · refine W.dt [] 24 (decide (((S.lessr (S.fl : Rat)).lessr (Rat.divInt 1 2)).sg < 0)) (by kernel_rfl) (by rw [decide_eq_true_iff]; exact h1) ?_
    exact W.r [32, 27, 24] (yv S1 t1) (by kernel_rfl) ⟨_, _, rfl, rfl⟩ (entY (by omega) (by rw [hnr, if_pos (.inl h1)]))
  refine W.df [] 24 (decide (((S.lessr (S.fl : Rat)).lessr (Rat.divInt 1 2)).sg < 0)) (by kernel_rfl) (by rw [decide_eq_false_iff_not]; exact h1) ?_
  by_cases h2 : ((S.lessr (S.fl : Rat)).lessr (Rat.divInt 1 2)).sg = 0
  · refine W.dt [24] 27 (((S.lessr (S.fl : Rat)).lessr (Rat.divInt 1 2)).sg == 0) (by kernel_rfl) (by rw [h2]; rfl) ?_
    by_cases h3 : S.fl % 2 = 0
    · refine W.dt [24, 27] 32 (R8 == 0) (by kernel_rfl) (by rw [hR, h3]; rfl) ?_
      exact W.r [32] (yv S1 t1) (by kernel_rfl) ⟨_, _, rfl, rfl⟩ (entY (by omega) (by rw [hnr, if_pos (.inr ⟨h2, h3⟩)]))
    · refine W.df [24, 27] 32 (R8 == 0) (by kernel_rfl) (by rw [hR, show S.fl % 2 = 1 by omega]; rfl) ?_
      refine W.cl [32, 24, 27] (by kernel_rfl) (p_yof 1 (by omega) (by omega)) ?_
      rintro _ _ ⟨S9, t9, rfl, rfl⟩
      refine W.cl [] (by kernel_rfl) (p_yadd S1 t1 S9 t9) ?_
      rintro _ _ ⟨S10, t10, rfl, rfl⟩
      exact W.r [] (yv S10 t10) (by kernel_rfl) ⟨_, _, rfl, rfl⟩ (entY (by omega) (by rw [hnr, if_neg (fun h => by rcases h with h | h; exact h1 h; exact h3 h.2)]))
  · refine W.df [24] 27 (((S.lessr (S.fl : Rat)).lessr (Rat.divInt 1 2)).sg == 0) (by kernel_rfl) (by rw [beq_eq_false_iff_ne]; exact h2) ?_
    refine W.cl [32, 24, 27] (by kernel_rfl) (p_yof 1 (by omega) (by omega)) ?_
    rintro _ _ ⟨S9, t9, rfl, rfl⟩
    refine W.cl [] (by kernel_rfl) (p_yadd S1 t1 S9 t9) ?_
    rintro _ _ ⟨S10, t10, rfl, rfl⟩
    exact W.r [] (yv S10 t10) (by kernel_rfl) ⟨_, _, rfl, rfl⟩ (entY (by omega) (by rw [hnr, if_neg (fun h => by rcases h with h | h; exact h1 h; exact h2 h.1)]))
end
end Go.Proofs.YtabpaiboodllbaaGreat
