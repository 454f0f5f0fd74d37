/- The reference's powers of two, up to 9000. -/
import Derived.Test.YtaafmafdnnjmdaaGreatProg
import Derived.Test.YtaafmafdnnjmdaaGreatRefX
import Derived.Test.YtaafmafdnnjmdaaGreatPn
import Derived.Test.YtaafmafdnnjmdaaGreatRefK
import Derived.Test.YtaafmafdnnjmdaaGreatPr
import Derived.Deep.DeepCutAuto
import Derived.Deep.LoopGhost
set_option linter.unusedSimpArgs false
set_option linter.unusedVariables false
namespace Go.Proofs.YtaafmafdnnjmdaaGreat
open Go.RowKit

section
variable {Γ : List Fact} {L M x y : Nat}
theorem r_rootn (s : Sl) [ha : Has (RF s) (L, x) Γ] (hL : L ≤ 1000000 := by omega) :
    PCalls tb Tryz.prog 123 [mv s] Γ (fun v Δ => ∃ u t : Sl, v = .tuple #[mv u, mv t] ∧ Δ = [RF u (L, isq x), RF t (L, x - isq x * isq x)]) :=
  ⟨⟨_, Tryz.func123, by kernel_rfl, by kernel_rfl⟩, fun I w hd hh => by
    obtain ⟨h1, h2, h3⟩ := ha.p hh
    refine (rroot_spec h1 (Nat.le_trans h3 hL)).mono ?_
    rintro e w' ⟨u, v, r, rfl, hu, hv, hr1, hr2, hn1, hn2, hb⟩
    obtain rfl := isq_unique hr1 hr2
    exact ⟨_, _, rfl, ⟨u, v, rfl, rfl⟩, hb, Holds.cons (hu.fact hd hb (by simp only at h3; omega)) (holds1 (hv.fact hd hb (by simp only at h3; omega)))⟩⟩
end
end Go.Proofs.YtaafmafdnnjmdaaGreat
