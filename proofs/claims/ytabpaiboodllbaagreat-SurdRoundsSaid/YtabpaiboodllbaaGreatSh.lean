
/- The floor and the nearest whole number of a number with two roots: the contracts, whichever number it is. -/
import Derived.Test.YtabpaiboodllbaaGreatSf
set_option linter.unusedSimpArgs false
set_option linter.unusedVariables false
namespace Go.Proofs.YtabpaiboodllbaaGreat
open Go.RowKit Go.IntWalk

section
variable {fin : VS → List Fact → Prop} {Γ : List Fact} {L M K : Nat}
set_option maxHeartbeats 8000000 in
theorem p_xfl (x : Sw) {S : Sn} [Has (SF x) (L, S) Γ] (hm : 0 ≤ S.m) (hn : 0 ≤ S.n) (hL : L ≤ 300 := by omega) :
    PCalls tb Tryz.prog 13 [sv x] Γ (ZPost (10 * L + 210) S.fl) := by
  refine PCalls.of_W tbOk Tryz.func13 rfl (by kernel_rfl) ?_
  have z1 := fl_lo S hm hn
  have z2 := fl_hi S hm hn
  have hlow : S.low = ((((0 + (qab S.p 1 8)) + (qab S.q S.m 8)) + (qab S.r S.n 8)) + (qab S.s (S.m * S.n) 8)) / 256 := rfl
  refine W.more rfl (entZnil (L' := 0)) ?_
  refine W.sf x rfl ?_
  refine W.cl [] (by kernel_rfl) (p_zof 1 (by omega) (by omega)) ?_
  rintro _ _ ⟨u1, d1, rfl, rfl⟩   -- 1
  refine W.cl [] (by kernel_rfl) (p_zmul x.u x.d x.v x.e) ?_
  rintro _ _ ⟨u2, d2, rfl, rfl⟩   -- (S.m * S.n)
  refine W.unr [] 6 (by kernel_rfl) ?_
  refine W.cl [30] (by kernel_rfl) (p_xabout x.p.n x.p.a x.p.m x.p.b u1 d1 8 rfl) ?_
  rintro _ _ ⟨u3, d3, rfl, rfl⟩   -- (qab S.p 1 8)
  refine W.cl [] (by kernel_rfl) (p_zadd ⟨none, 0, 0⟩ false u3 d3) ?_
  rintro _ _ ⟨u4, d4, rfl, rfl⟩   -- (0 + (qab S.p 1 8))
  refine W.cl [30] (by kernel_rfl) (p_xabout x.q.n x.q.a x.q.m x.q.b x.u x.d 8 rfl) ?_
  rintro _ _ ⟨u5, d5, rfl, rfl⟩   -- (qab S.q S.m 8)
  refine W.cl [] (by kernel_rfl) (p_zadd u4 d4 u5 d5) ?_
  rintro _ _ ⟨u6, d6, rfl, rfl⟩   -- ((0 + (qab S.p 1 8)) + (qab S.q S.m 8))
  refine W.cl [30] (by kernel_rfl) (p_xabout x.r.n x.r.a x.r.m x.r.b x.v x.e 8 rfl) ?_
  rintro _ _ ⟨u7, d7, rfl, rfl⟩   -- (qab S.r S.n 8)
  refine W.cl [] (by kernel_rfl) (p_zadd u6 d6 u7 d7) ?_
  rintro _ _ ⟨u8, d8, rfl, rfl⟩   -- (((0 + (qab S.p 1 8)) + (qab S.q S.m 8)) + (qab S.r S.n 8))
  refine W.cl [30] (by kernel_rfl) (p_xabout x.s.n x.s.a x.s.m x.s.b u2 d2 8 rfl) ?_
  rintro _ _ ⟨u9, d9, rfl, rfl⟩   -- (qab S.s (S.m * S.n) 8)
  refine W.cl [] (by kernel_rfl) (p_zadd u8 d8 u9 d9) ?_
  rintro _ _ ⟨u10, d10, rfl, rfl⟩   -- ((((0 + (qab S.p 1 8)) + (qab S.q S.m 8)) + (qab S.r S.n 8)) + (qab S.s (S.m * S.n) 8))
  refine W.cl [30] (by kernel_rfl) (p_zof 256 (by omega) (by omega)) ?_
  rintro _ _ ⟨u11, d11, rfl, rfl⟩   -- 256
  refine W.cl [] (by kernel_rfl) (p_zfloor u10 d10 u11 d11 (by omega)) ?_
  rintro _ _ ⟨u12, d12, v12, e12, rfl, rfl⟩   -- (((((0 + (qab S.p 1 8)) + (qab S.q S.m 8)) + (qab S.r S.n 8)) + (qab S.s (S.m * S.n) 8)) / 256) (((((0 + (qab S.p 1 8)) + (qab S.q S.m 8)) + (qab S.r S.n 8)) + (qab S.s (S.m * S.n) 8)) % 256)
  refine W.unr [] 6 (by kernel_rfl) ?_
  refine W.cl [] (by kernel_rfl) (p_xless x u12 d12) ?_
  rintro _ _ ⟨rfl, rfl⟩
  by_cases h1 : (S.lessq S.low).sg < 0
  · refine W.dt [] 50 ((decide ((S.lessq (((((0 + (qab S.p 1 8)) + (qab S.q S.m 8)) + (qab S.r S.n 8)) + (qab S.s (S.m * S.n) 8)) / 256)).sg < 0))) (by kernel_rfl) (by rw [decide_eq_true_iff, ← hlow]; exact h1) ?_
    refine W.cl [50] (by kernel_rfl) (p_zsub u12 d12 u1 d1) ?_
    rintro _ _ ⟨u14, d14, rfl, rfl⟩   -- ((((((0 + (qab S.p 1 8)) + (qab S.q S.m 8)) + (qab S.r S.n 8)) + (qab S.s (S.m * S.n) 8)) / 256) - 1)
    refine W.cl [] (by kernel_rfl) (p_xless x u14 d14) ?_
    rintro _ _ ⟨rfl, rfl⟩
    refine W.df [] 50 ((decide ((S.lessq ((((((0 + (qab S.p 1 8)) + (qab S.q S.m 8)) + (qab S.r S.n 8)) + (qab S.s (S.m * S.n) 8)) / 256) - 1)).sg < 0))) (by kernel_rfl) (by rw [decide_eq_false_iff_not, ← hlow]; omega) ?_
    refine W.unr [50] 6 (by kernel_rfl) ?_
    refine W.cl [] (by kernel_rfl) (p_zadd u14 d14 u1 d1) ?_
    rintro _ _ ⟨u16, d16, rfl, rfl⟩   -- (((((((0 + (qab S.p 1 8)) + (qab S.q S.m 8)) + (qab S.r S.n 8)) + (qab S.s (S.m * S.n) 8)) / 256) - 1) + 1)
    refine W.cl [] (by kernel_rfl) (p_xless x u16 d16) ?_
    rintro _ _ ⟨rfl, rfl⟩
    refine W.df [] 59 (!(decide ((S.lessq (((((((0 + (qab S.p 1 8)) + (qab S.q S.m 8)) + (qab S.r S.n 8)) + (qab S.s (S.m * S.n) 8)) / 256) - 1) + 1)).sg < 0))) (by kernel_rfl) (by rw [Bool.not_eq_false', decide_eq_true_eq, ← hlow, show S.low - 1 + 1 = S.low by omega]; exact h1) ?_
    exact W.r [59] (zv u14 d14) (by kernel_rfl) ⟨_, _, rfl, rfl⟩ (entZ (by omega) (by unfold Sn.fl; rw [if_pos h1, hlow]))
  · by_cases h2 : (S.lessq (S.low + 1)).sg < 0
    · refine W.df [] 50 ((decide ((S.lessq (((((0 + (qab S.p 1 8)) + (qab S.q S.m 8)) + (qab S.r S.n 8)) + (qab S.s (S.m * S.n) 8)) / 256)).sg < 0))) (by kernel_rfl) (by rw [decide_eq_false_iff_not, ← hlow]; exact h1) ?_
      refine W.unr [50] 6 (by kernel_rfl) ?_
      refine W.cl [] (by kernel_rfl) (p_zadd u12 d12 u1 d1) ?_
      rintro _ _ ⟨u14, d14, rfl, rfl⟩   -- ((((((0 + (qab S.p 1 8)) + (qab S.q S.m 8)) + (qab S.r S.n 8)) + (qab S.s (S.m * S.n) 8)) / 256) + 1)
      refine W.cl [] (by kernel_rfl) (p_xless x u14 d14) ?_
      rintro _ _ ⟨rfl, rfl⟩
      refine W.df [] 59 (!(decide ((S.lessq ((((((0 + (qab S.p 1 8)) + (qab S.q S.m 8)) + (qab S.r S.n 8)) + (qab S.s (S.m * S.n) 8)) / 256) + 1)).sg < 0))) (by kernel_rfl) (by rw [Bool.not_eq_false', decide_eq_true_eq, ← hlow]; exact h2) ?_
      exact W.r [59] (zv u12 d12) (by kernel_rfl) ⟨_, _, rfl, rfl⟩ (entZ (by omega) (by unfold Sn.fl; rw [if_neg h1, if_pos h2, hlow]))
    · refine W.df [] 50 ((decide ((S.lessq (((((0 + (qab S.p 1 8)) + (qab S.q S.m 8)) + (qab S.r S.n 8)) + (qab S.s (S.m * S.n) 8)) / 256)).sg < 0))) (by kernel_rfl) (by rw [decide_eq_false_iff_not, ← hlow]; exact h1) ?_
      refine W.unr [50] 6 (by kernel_rfl) ?_
      refine W.cl [] (by kernel_rfl) (p_zadd u12 d12 u1 d1) ?_
      rintro _ _ ⟨u14, d14, rfl, rfl⟩   -- ((((((0 + (qab S.p 1 8)) + (qab S.q S.m 8)) + (qab S.r S.n 8)) + (qab S.s (S.m * S.n) 8)) / 256) + 1)
      refine W.cl [] (by kernel_rfl) (p_xless x u14 d14) ?_
      rintro _ _ ⟨rfl, rfl⟩
      refine W.dt [] 59 (!(decide ((S.lessq ((((((0 + (qab S.p 1 8)) + (qab S.q S.m 8)) + (qab S.r S.n 8)) + (qab S.s (S.m * S.n) 8)) / 256) + 1)).sg < 0))) (by kernel_rfl) (by rw [Bool.not_eq_true', decide_eq_false_iff_not, ← hlow]; exact h2) ?_
      refine W.cl [59] (by kernel_rfl) (p_zadd u12 d12 u1 d1) ?_
      rintro _ _ ⟨u16, d16, rfl, rfl⟩   -- ((((((0 + (qab S.p 1 8)) + (qab S.q S.m 8)) + (qab S.r S.n 8)) + (qab S.s (S.m * S.n) 8)) / 256) + 1)
      refine W.cl [] (by kernel_rfl) (p_zadd u16 d16 u1 d1) ?_
      rintro _ _ ⟨u17, d17, rfl, rfl⟩   -- (((((((0 + (qab S.p 1 8)) + (qab S.q S.m 8)) + (qab S.r S.n 8)) + (qab S.s (S.m * S.n) 8)) / 256) + 1) + 1)
      refine W.cl [] (by kernel_rfl) (p_xless x u17 d17) ?_
      rintro _ _ ⟨rfl, rfl⟩
      refine W.df [] 59 (!(decide ((S.lessq (((((((0 + (qab S.p 1 8)) + (qab S.q S.m 8)) + (qab S.r S.n 8)) + (qab S.s (S.m * S.n) 8)) / 256) + 1) + 1)).sg < 0))) (by kernel_rfl) (by rw [Bool.not_eq_false', decide_eq_true_eq, ← hlow, show S.low + 1 + 1 = S.low + 2 by omega]; omega) ?_
      exact W.r [59] (zv u16 d16) (by kernel_rfl) ⟨_, _, rfl, rfl⟩ (entZ (by omega) (by unfold Sn.fl; rw [if_neg h1, if_neg h2, hlow]))
set_option maxHeartbeats 4000000 in
theorem p_xnr (x : Sw) {S : Sn} [Has (SF x) (L, S) Γ] (hm : 0 ≤ S.m) (hn : 0 ≤ S.n) (hL : L ≤ 280 := by omega) :
    PCalls tb Tryz.prog 17 [sv x] Γ (ZPost (10 * L + 520) S.nr) := by
  refine PCalls.of_W tbOk Tryz.func17 rfl (by kernel_rfl) ?_
  refine W.sf x rfl ?_
  refine W.cl [] (by kernel_rfl) (p_qof 1 2 (by omega) (by omega) (by omega) (by omega) (by omega)) ?_
  rintro _ _ ⟨n1, a1, m1, b1, rfl, rfl⟩   -- (Rat.divInt 1 2)
  refine W.cl [] (by kernel_rfl) (p_qadd x.p.n x.p.a x.p.m x.p.b n1 a1 m1 b1) ?_
  rintro _ _ ⟨n2, a2, m2, b2, rfl, rfl⟩   -- (S.p + (Rat.divInt 1 2))
  refine W.cx [] (by kernel_rfl) (entS (x := ⟨x.u, x.d, x.v, x.e, ⟨n2, a2, m2, b2⟩, x.q, x.r, x.s⟩) (L' := L + 10) (S := S.half) rfl rfl rfl rfl rfl rfl (by omega)) (p_xfl (S := S.half) ⟨x.u, x.d, x.v, x.e, ⟨n2, a2, m2, b2⟩, x.q, x.r, x.s⟩ hm hn) ?_
  rintro _ _ ⟨u3, d3, rfl, rfl⟩   -- S.half.fl
  refine W.cl [] (by kernel_rfl) (p_qwhole u3 d3) ?_
  rintro _ _ ⟨n4, a4, m4, b4, rfl, rfl⟩   -- (S.half.fl : Rat)
  refine W.cl [] (by kernel_rfl) (p_qsub n2 a2 m2 b2 n4 a4 m4 b4) ?_
  rintro _ _ ⟨n5, a5, m5, b5, rfl, rfl⟩   -- ((S.p + (Rat.divInt 1 2)) - (S.half.fl : Rat))
  refine W.cl [] (by kernel_rfl) (p_zof 2 (by omega) (by omega)) ?_
  rintro _ _ ⟨u6, d6, rfl, rfl⟩   -- 2
  refine W.cl [] (by kernel_rfl) (p_zfloor u3 d3 u6 d6 (by omega)) ?_
  rintro _ _ ⟨u7, d7, v7, e7, rfl, rfl⟩   -- (S.half.fl / 2) (S.half.fl % 2)
  refine W.cx [] (by kernel_rfl) (entS (x := ⟨x.u, x.d, x.v, x.e, ⟨n5, a5, m5, b5⟩, x.q, x.r, x.s⟩) (L' := 12 * L + 400) (S := (S.half.lessq S.half.fl)) rfl rfl rfl rfl rfl rfl (by omega)) (p_xsign ⟨x.u, x.d, x.v, x.e, ⟨n5, a5, m5, b5⟩, x.q, x.r, x.s⟩) ?_
  rintro _ _ ⟨rfl, rfl⟩
  refine W.d [] 42 ((S.half.lessq S.half.fl).sg == 0) (by kernel_rfl) (fun hb => ?_) (fun hb => ?_)
  · have hb' := hb
    refine W.cl [42] (by kernel_rfl) (p_zsign v7 e7) ?_
    rintro _ _ ⟨rfl, rfl⟩
    refine W.d [42] 46 (((S.half.fl % 2)).sign != 0) (by kernel_rfl) (fun hb => ?_) (fun hb => ?_)
    · skip
      refine W.cl [46] (by kernel_rfl) (p_zof 1 (by omega) (by omega)) ?_
      rintro _ _ ⟨u10, d10, rfl, rfl⟩   -- 1
      refine W.cl [] (by kernel_rfl) (p_zsub u3 d3 u10 d10) ?_
      rintro _ _ ⟨u11, d11, rfl, rfl⟩   -- (S.half.fl - 1)
      exact W.r [] (zv u11 d11) (by kernel_rfl) ⟨_, _, rfl, rfl⟩ (entZ (by omega) (by unfold Sn.nr; rw [if_pos ⟨eq_of_beq hb', fun h => by rw [h] at hb; simp at hb⟩]))
    · skip
      exact W.r [46] (zv u3 d3) (by kernel_rfl) ⟨_, _, rfl, rfl⟩ (entZ (by omega) (by unfold Sn.nr; rw [if_neg (fun h => h.2 (by simpa using hb))]))
  · skip
    exact W.r [46, 42] (zv u3 d3) (by kernel_rfl) ⟨_, _, rfl, rfl⟩ (entZ (by omega) (by unfold Sn.nr; rw [if_neg (fun h => ne_of_beq_false hb h.1)]))
end
end Go.Proofs.YtabpaiboodllbaaGreat
