
/- A number of a field out of one quotient; nearest whole numbers: plain laws. -/
import Derived.Test.YtabpaiboodllbaaGreatSh
set_option linter.unusedSimpArgs false
set_option linter.unusedVariables false
namespace Go.Proofs.YtabpaiboodllbaaGreat
open Go.RowKit Go.IntWalk

section
variable {fin : VS → List Fact → Prop} {Γ : List Fact} {L M K : Nat}
theorem p_xof1 (u : Sl) (d : Bool) (v : Sl) (e : Bool) (B : Nat) (a : Qw) {m n : Int} {x : Rat} {L1 : Nat} [h1 : Has (ZF u d) (L, m) Γ] [h2 : Has (ZF v e) (M, n) Γ] [hr : Has (RowF B) ([(⟨a.n, a.a, a.m, a.b, x⟩ : QE)].flatMap QR.cells) Γ] [ha : Has (QG a) (L1, x) Γ] (hm : 0 ≤ m) (hn : 0 ≤ n)
    (hL : L ≤ 100000 := by omega) (hM : M ≤ 100000 := by omega) :
    PCalls tb Tryz.prog 37 [zv u d, zv v e, .slice (some ⟨B, 0, none⟩) 1 1] Γ (SOk (max (max L M) L1) ⟨m, n, x, 0, 0, 0⟩) :=
  (p_xof (Γ := OL QR (some ⟨B, 0, none⟩) (L1, [(⟨a.n, a.a, a.m, a.b, x⟩ : QE)]) :: Γ) u d v e (some ⟨B, 0, none⟩) 1 1 rfl (by omega) hm hn).weak (fun I w hd hh => Holds.cons ⟨fun q hq => by
    simp at hq
    subst hq
    exact ha.p hh, RA.of_row (hr.p hh) (fun _ _ h => h)⟩ hh) (fun _ _ h => h)
end

theorem Sn.nr_cases (S : Sn) (hm : 0 ≤ S.m) (hn : 0 ≤ S.n) : (S.sub ⟨S.m, S.n, (S.nr : Rat) + Rat.divInt 1 2, 0, 0, 0⟩).sg ≤ 0 ∧ 0 ≤ (S.sub ⟨S.m, S.n, (S.nr : Rat) - Rat.divInt 1 2, 0, 0, 0⟩).sg ∧
    (((S.sub ⟨S.m, S.n, (S.nr : Rat) + Rat.divInt 1 2, 0, 0, 0⟩).sg < 0 ∧ 0 < (S.sub ⟨S.m, S.n, (S.nr : Rat) - Rat.divInt 1 2, 0, 0, 0⟩).sg) ∨ (S.nr % 2).sign = 0) := by
  obtain ⟨g1, g2⟩ := S.half.fl_spec hm hn
  have h2 : Rat.divInt 1 2 + Rat.divInt 1 2 = 1 := by decide +kernel
  have c1 : ((1 : Int) : Rat) = 1 := rfl
  have up : ∀ f : Int, S.sub ⟨S.m, S.n, (f : Rat) + Rat.divInt 1 2, 0, 0, 0⟩ = S.half.lessq (f + 1) := fun f => by
    refine Sn.ext' rfl rfl ?_ ?_ ?_ ?_ <;> simp only [Sn.sub, Sn.lessq, Sn.half, Sn.up, Rat.intCast_add, c1] <;> grind
  have down : ∀ f : Int, S.sub ⟨S.m, S.n, (f : Rat) - Rat.divInt 1 2, 0, 0, 0⟩ = S.half.lessq f := fun f => by
    refine Sn.ext' rfl rfl ?_ ?_ ?_ ?_ <;> simp only [Sn.sub, Sn.lessq, Sn.half, Sn.up] <;> grind
  rw [up, down]
  unfold Sn.nr
  split
  · rename_i h
    rw [show S.half.fl - 1 + 1 = S.half.fl by omega]
    have := lessq_mono S.half hm hn (show S.half.fl - 1 ≤ S.half.fl by omega)
    refine ⟨by omega, by omega, .inr ?_⟩
    rw [show (S.half.fl - 1) % 2 = 0 by
      have : S.half.fl % 2 ≠ 0 := fun e => h.2 (by rw [e]; rfl)
      omega]
    rfl
  · rename_i h
    refine ⟨by omega, g1, ?_⟩
    by_cases h0 : (S.half.lessq S.half.fl).sg = 0
    · exact .inr (by
        by_cases h3 : (S.half.fl % 2).sign = 0
        · exact h3
        · exact absurd ⟨h0, h3⟩ h)
    · exact .inl ⟨g2, by omega⟩
theorem Sn.nr_move (S : Sn) (hm : 0 ≤ S.m) (hn : 0 ≤ S.n) (q : Int) : (S.add ⟨S.m, S.n, ((q + q : Int) : Rat), 0, 0, 0⟩).nr = S.nr + q + q := by
  obtain ⟨g1, g2⟩ := S.half.fl_spec hm hn
  have e : ∀ f : Int, (S.add ⟨S.m, S.n, ((q + q : Int) : Rat), 0, 0, 0⟩).half.lessq (f + (q + q)) = S.half.lessq f := fun f => by
    refine Sn.ext' rfl rfl ?_ ?_ ?_ ?_ <;> simp only [Sn.add, Sn.lessq, Sn.half, Sn.up, Rat.intCast_add] <;> grind
  have hf : (S.add ⟨S.m, S.n, ((q + q : Int) : Rat), 0, 0, 0⟩).half.fl = S.half.fl + (q + q) := Sn.fl_unique (S.add ⟨S.m, S.n, ((q + q : Int) : Rat), 0, 0, 0⟩).half hm hn (by rw [e]; exact g1) (by
    rw [show S.half.fl + (q + q) + 1 = (S.half.fl + 1) + (q + q) by omega, e]; exact g2)
  unfold Sn.nr
  rw [hf, e, show (S.half.fl + (q + q)) % 2 = S.half.fl % 2 by omega]
  split <;> omega
end Go.Proofs.YtabpaiboodllbaaGreat
