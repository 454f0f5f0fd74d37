/- Where places of other fields come to: the law's own function. -/
import Derived.Test.YtaafmafdnnjmdaaFv
set_option linter.unusedSimpArgs false
set_option linter.unusedVariables false
namespace Go.Proofs.Ytaafmafdnnjmdaa
open Go.RowKit Go.IntWalk
section
variable {fin : VS → List Fact → Prop} {Γ : List Fact} {L M K : Nat}
theorem p_ofarG (V : On) (t : Q5) (x y : Sw) {X Y X' Y' : Sn} {L1 : Nat} [Has (OF t) (L1, V) Γ] [Has (SF x) (L, X) Γ] [Has (SF y) (M, Y) Γ] (ho : 0 ≤ V.o ∧ V.o ≤ 7) (h2 : V.o % 2 = 0) (hb : V.b = 0) (hd : V.d = 0) (h0 : 0 ≤ X.m ∧ 0 ≤ X.n) (hmn : 2 < X.m ∨ 2 < X.n) (em : X.m = Y.m) (en : X.n = Y.n)
    (hX : V.farX X Y = X') (hY : V.farY X Y = Y') (hL : L ≤ 40 ∧ M ≤ 40 ∧ L1 ≤ 100 := by omega) :
    PCalls tb Try.prog 20 [otv V t, plv x y] Γ (FarPost 2000 X' Y') := by
  subst hX hY
  obtain ⟨f, o, g, a, b, c, d⟩ := V
  simp only at ho h2 hb hd
  subst hb hd
  rcases eight ho with rfl | rfl | rfl | rfl | rfl | rfl | rfl | rfl
  · cases f
    · exact p_ofarG0f g a c t x y h0 hmn em en hL
    · exact p_ofarG0t g a c t x y h0 hmn em en hL
  · exact absurd h2 (by decide)
  · cases f
    · exact p_ofarG2f g a c t x y h0 hmn em en hL
    · exact p_ofarG2t g a c t x y h0 hmn em en hL
  · exact absurd h2 (by decide)
  · cases f
    · exact p_ofarG4f g a c t x y h0 hmn em en hL
    · exact p_ofarG4t g a c t x y h0 hmn em en hL
  · exact absurd h2 (by decide)
  · cases f
    · exact p_ofarG6f g a c t x y h0 hmn em en hL
    · exact p_ofarG6t g a c t x y h0 hmn em en hL
  · exact absurd h2 (by decide)
end
end Go.Proofs.Ytaafmafdnnjmdaa
