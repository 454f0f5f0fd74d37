
/- The contracts of the reference's quotients. -/
import Derived.Test.YtabpaiboodllbaaFq
set_option linter.unusedSimpArgs false
set_option linter.unusedVariables false
namespace Go.Proofs.Ytabpaiboodllbaa
open Go.RowKit Go.IntWalk

/-- A quotient of the reference: any two numbers, the second above 0. -/
def PF (S : Int) (s : Sl) (R : Int) (t : Sl) (a : Nat × Rat) : Fact where
  p I w := ∃ n d : Int, (YF S s (a.1, n)).p I w ∧ (YF R t (a.1, d)).p I w ∧ 0 < d ∧ a.2 = Rat.divInt n d
  up := by
    rintro I I' w w' ⟨n, d, h, h', hd, hq⟩ h1 h2 h3
    exact ⟨n, d, (YF S s _).up h h1 h2 h3, (YF R t _).up h' h1 h2 h3, hd, hq⟩
def PPost (L : Nat) (q : Rat) (v : Value) (Δ : List Fact) : Prop := ∃ (S : Int) (s : Sl) (R : Int) (t : Sl), v = pv S s R t ∧ Δ = [PF S s R t (L, q)]

section
variable {fin : VS → List Fact → Prop} {Γ : List Fact} {L M : Nat}

theorem W.pf {P : Program} {c : Cfg} (S : Int) (s : Sl) (R : Int) (t : Sl) {q : Rat} [h : Has (PF S s R t) (L, q) Γ] (hm : midOps c.k = false)
    (hk : ∀ n d : Int, 0 < d → q = Rat.divInt n d → S = n.sign → W tb P fin c (YF S s (L, n) :: YF R t (L, d) :: Γ)) : W tb P fin c Γ :=
  W.elim (α := Int × Int) (fun y => 0 < y.2 ∧ q = Rat.divInt y.1 y.2 ∧ S = y.1.sign) (fun y => [YF S s (L, y.1), YF R t (L, y.2)]) hm (fun I w _ hh => by
    obtain ⟨n, d, h1, h2, h3, h4⟩ := h.p hh
    exact ⟨(n, d), ⟨h3, h4, h1.2⟩, Holds.cons h1 (holds1 h2)⟩) (fun y hy => hk y.1 y.2 hy.1 hy.2.1 hy.2.2)
theorem entP {S R : Int} {s t : Sl} {L' : Nat} {q q' : Rat} [h : Has (PF S s R t) (L, q) Γ] (hL : L ≤ L') (hq : q = q') : ∀ (I : Blk) (w : World), DataOK tb I w → Holds Γ I w → Holds [PF S s R t (L', q')] I w := fun I w _ hh => by
  subst hq
  obtain ⟨n, d, ⟨⟨h1, h2, h3⟩, h4⟩, ⟨⟨g1, g2, g3⟩, g4⟩, hy⟩ := h.p hh
  exact holds1 ⟨n, d, ⟨⟨h1, h2, Nat.le_trans h3 hL⟩, h4⟩, ⟨⟨g1, g2, Nat.le_trans g3 hL⟩, g4⟩, hy⟩
theorem entYP {S R : Int} {s t : Sl} {L' : Nat} {n d : Int} {q : Rat} [h : Has (YF S s) (L, n) Γ] [h' : Has (YF R t) (M, d) Γ] (hL : L ≤ L') (hM : M ≤ L') (hd : 0 < d) (hq : q = Rat.divInt n d) : ∀ (I : Blk) (w : World), DataOK tb I w → Holds Γ I w → Holds [PF S s R t (L', q)] I w := fun I w _ hh => by
  obtain ⟨⟨h1, h2, h3⟩, h4⟩ := h.p hh
  obtain ⟨⟨g1, g2, g3⟩, g4⟩ := h'.p hh
  exact holds1 ⟨n, d, ⟨⟨h1, h2, Nat.le_trans h3 hL⟩, h4⟩, ⟨⟨g1, g2, Nat.le_trans g3 hM⟩, g4⟩, hd, hq⟩

theorem s_make (S : Int) (s : Sl) (R : Int) (t : Sl) {x y : Int} [hn : Has (YF S s) (L, x) Γ] [hd : Has (YF R t) (M, y) Γ] (hy : y ≠ 0) :
    PCalls tb Try.prog 54 [yv S s, yv R t] Γ (PPost (max L M) (Rat.divInt x y)) := by
  refine PCalls.of_W tbOk Try.func54 rfl (by kernel_rfl) ?_
  refine W.know (R = y.sign) rfl (fun I w _ hh => (hd.p hh).2) (fun hR => ?_)
  by_cases h0 : y < 0
  · refine W.dt [] 7 (decide (R < 0)) (by kernel_rfl) (by rw [decide_eq_true_iff, hR, sign_lt]; exact h0) ?_
    refine W.cl [7] (by kernel_rfl) (p_yneg S s) ?_
    rintro _ _ ⟨S1, t1, rfl, rfl⟩
    refine W.cl [] (by kernel_rfl) (p_yneg R t) ?_
    rintro _ _ ⟨S2, t2, rfl, rfl⟩
    exact W.r [] (pv S1 t1 S2 t2) (by kernel_rfl) ⟨_, _, _, _, rfl, rfl⟩ (entYP (by omega) (by omega) (by omega) (by rw [Rat.divInt_eq_divInt_iff hy (by omega)]; grind))
  · refine W.df [] 7 (decide (R < 0)) (by kernel_rfl) (by rw [decide_eq_false_iff_not, hR, sign_lt]; exact h0) ?_
    exact W.r [7] (pv S s R t) (by kernel_rfl) ⟨_, _, _, _, rfl, rfl⟩ (entYP (by omega) (by omega) (by omega) rfl)
theorem s_of (a : Int) (h1 : -9223372036854775808 ≤ a) (h2 : a < 9223372036854775808) :
    PCalls tb Try.prog 46 [.int .i64 a] Γ (PPost 6 (a : Rat)) := by
  refine PCalls.of_W tbOk Try.func46 rfl (by kernel_rfl) ?_
  refine W.cl [] (by kernel_rfl) (p_yof a h1 h2) ?_
  rintro _ _ ⟨S1, t1, rfl, rfl⟩
  refine W.cl [] (by kernel_rfl) (p_yof 1 (by omega) (by omega)) ?_
  rintro _ _ ⟨S2, t2, rfl, rfl⟩
  exact W.r [] (pv S1 t1 S2 t2) (by kernel_rfl) ⟨_, _, _, _, rfl, rfl⟩ (entYP (by omega) (by omega) (by omega) (q_divInt1 a).symm)

theorem natAbs_div {x : Int} {g : Nat} (h : (g : Int) ∣ x) (hg : 0 < g) : (x / (g : Int)).natAbs = x.natAbs / g := by
  obtain ⟨k, rfl⟩ := h
  rw [Int.mul_ediv_cancel_left _ (by omega), Int.natAbs_mul]
  show k.natAbs = g * k.natAbs / g
  rw [Nat.mul_div_cancel_left _ hg]

/-- How long its text may be. -/
theorem W.ysz {P : Program} {c : Cfg} (S : Int) (s : Sl) {x : Int} [h : Has (YF S s) (L, x) Γ] (hm : midOps c.k = false) (hk : (ztxt x).size ≤ 1000000000 → W tb P fin c Γ) (hL : L ≤ 10000000 := by omega) : W tb P fin c Γ :=
  W.know _ hm (fun I w _ hh => by
    obtain ⟨⟨h1, h2, h3⟩, _⟩ := h.p hh
    have h1 : RefS w s x.natAbs := h1
    have := txt_dec_size (rdl_bound h1)
    simp only at h3
    unfold ztxt
    split
    · rw [ByteArray.size_append]; show 1 + _ ≤ _; omega
    · omega) hk
end

end Go.Proofs.Ytabpaiboodllbaa
