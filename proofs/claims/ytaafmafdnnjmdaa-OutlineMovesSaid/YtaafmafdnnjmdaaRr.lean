/- The reference's square, fold, bounds, between, less. The reference's sign: it is the sign, where its search ends. Numbers out of texts: the reference's search for their signs ends. The reference's floor and nearest whole number: they are the program's. The reference's floor and nearest whole number, by bits. -/
import Derived.Test.YtaafmafdnnjmdaaRk
import Derived.Test.YtaafmafdnnjmdaaRefT
import Derived.Test.YtaafmafdnnjmdaaRc
import Derived.Test.YtaafmafdnnjmdaaSu
import Derived.Test.YtaafmafdnnjmdaaSy
set_option linter.unusedSimpArgs false
set_option linter.unusedVariables false
namespace Go.Proofs.Ytaafmafdnnjmdaa
open Go.RowKit Go.IntWalk

theorem fold_tt {S : Sn} (h1 : isSq S.m = true) (h2 : isSq S.n = true) : S.fold = ⟨S.m, S.n, 0 + (0 + S.p + rtq S.m * S.q) + rtq S.n * (0 + S.r + rtq S.m * S.s), 0 + 0 + rtq S.n * 0, 0, 0⟩ := by
  unfold Sn.fold Sn.f1
  rw [if_pos h1]
  unfold Sn.f2
  rw [if_pos h2]
  unfold Sn.f3
  rw [if_neg (fun h => by rw [h1] at h; simp at h)]
theorem fold_tf {S : Sn} (h1 : isSq S.m = true) (h2 : isSq S.n = false) : S.fold = ⟨S.m, S.n, 0 + S.p + rtq S.m * S.q, 0, 0 + S.r + rtq S.m * S.s, 0⟩ := by
  unfold Sn.fold Sn.f1
  rw [if_pos h1]
  unfold Sn.f2
  rw [if_neg (by rw [h2]; simp)]
  unfold Sn.f3
  rw [if_neg (fun h => by rw [h1] at h; simp at h)]
theorem fold_ft {S : Sn} (h1 : isSq S.m = false) (h2 : isSq S.n = true) : S.fold = ⟨S.m, S.n, 0 + S.p + rtq S.n * S.r, 0 + S.q + rtq S.n * S.s, 0, 0⟩ := by
  unfold Sn.fold Sn.f1
  rw [if_neg (by rw [h1]; simp)]
  unfold Sn.f2
  rw [if_pos h2]
  unfold Sn.f3
  rw [if_neg (fun h => by have := h.2.2; simp only at this; rw [h2] at this; simp at this)]
theorem fold_fft {S : Sn} (h1 : isSq S.m = false) (h2 : isSq S.n = false) (h3 : isSq (S.m * S.n) = true) : S.fold = ⟨S.m, S.n, 0 + S.p + rtq (S.m * S.n) * S.s, 0 + S.q + rtq (S.m * S.n) / (S.m : Rat) * S.r, 0, 0⟩ := by
  unfold Sn.fold Sn.f1
  rw [if_neg (by rw [h1]; simp)]
  unfold Sn.f2
  rw [if_neg (by rw [h2]; simp)]
  unfold Sn.f3
  rw [if_pos ⟨h3, h1, h2⟩]
theorem fold_fff {S : Sn} (h1 : isSq S.m = false) (h2 : isSq S.n = false) (h3 : isSq (S.m * S.n) = false) : S.fold = S := by
  unfold Sn.fold Sn.f1
  rw [if_neg (by rw [h1]; simp)]
  unfold Sn.f2
  rw [if_neg (by rw [h2]; simp)]
  unfold Sn.f3
  rw [if_neg (fun h => by rw [h3] at h; simp at h)]
theorem sq_ne {m : Int} (h : isSq m = false) : (m : Rat) ≠ 0 := fun e => by
  have : m = 0 := Rat.intCast_inj.1 e
  rw [this, isSq_zero] at h
  simp at h
theorem YF.tight {S : Int} {s : Sl} {L b : Nat} {x : Int} {I : Blk} {w : World} (h : (YF S s (L, x)).p I w) (hx : x.natAbs ≤ 2 ^ b) : (YF S s (b / 13 + 1, x)).p I w := by
  obtain ⟨⟨⟨l, hi, hd, hn, hv⟩, h2, h3⟩, h4⟩ := h
  refine ⟨⟨⟨l, hi, hd, hn, hv⟩, h2, ?_⟩, h4⟩
  have hlt : x.natAbs < 10000 ^ (b / 13 + 1) := by
    have e1 : 2 ^ b < 2 ^ (13 * (b / 13 + 1)) := Nat.pow_lt_pow_right (by omega) (by omega)
    have e2 : 2 ^ (13 * (b / 13 + 1)) = (2 ^ 13) ^ (b / 13 + 1) := Nat.pow_mul 2 13 _
    have e3 : (2 ^ 13) ^ (b / 13 + 1) ≤ 10000 ^ (b / 13 + 1) := Nat.pow_le_pow_left (by decide) _
    omega
  have := hn.len_of_lt (B := 10000) (k := b / 13 + 1) (by decide) (by rw [hv]; exact hlt)
  have := hi.1
  simp only
  omega

section
variable {fin : VS → List Fact → Prop} {Γ : List Fact} {L M K : Nat}
theorem W.pn {P : Program} {c : Cfg} (S : Int) (s : Sl) (R : Int) (t : Sl) {q : Rat} [h : Has (PF S s R t) (L, q) Γ] (hm : midOps c.k = false) (hk : S = q.num.sign → W tb P fin c Γ) : W tb P fin c Γ :=
  W.know _ hm (fun _ _ _ hh => by
    obtain ⟨n, d, h1, h2, hd, hq⟩ := h.p hh
    rw [h1.2]
    exact sign_of hd hq) hk
end
end Go.Proofs.Ytaafmafdnnjmdaa

set_option linter.unusedSimpArgs false
set_option linter.unusedVariables false
namespace Go.Proofs.Ytaafmafdnnjmdaa
open Go.RowKit Go.IntWalk

theorem sgn_lo {q : Rat} : q.num.sign > 0 ↔ 0 < q := by
  constructor
  · intro h
    by_cases h0 : q = 0
    · rw [sign_eq0.2 h0] at h; simp at h
    · by_cases h1 : q < 0
      · have := sign_lt0.2 h1; omega
      · grind
  · intro h
    exact sign_pos_q h
where
  sign_pos_q {q : Rat} (h : 0 < q) : q.num.sign > 0 := by
    have h1 : ¬ q.num.sign < 0 := fun e => by rw [sign_lt0] at e; grind
    have h2 : ¬ q.num.sign = 0 := fun e => by rw [sign_eq0] at e; grind
    omega
section
variable {fin : VS → List Fact → Prop} {Γ : List Fact} {L M K : Nat}
end
end Go.Proofs.Ytaafmafdnnjmdaa

set_option linter.unusedSimpArgs false
set_option linter.unusedVariables false
namespace Go.Proofs.Ytaafmafdnnjmdaa
open Go.RowKit Go.IntWalk

/-- A number of four parts so great. -/
def mdS (A D : Nat) (S : Sn) : Prop := md A D S.p ∧ md A D S.q ∧ md A D S.r ∧ md A D S.s
theorem mdS.sub {A D B E : Nat} {S T : Sn} (h : mdS A D S) (g : mdS B E T) : mdS (max A B + 1) (D + E) (S.sub T) :=
  ⟨h.1.sub g.1, h.2.1.sub g.2.1, h.2.2.1.sub g.2.2.1, h.2.2.2.sub g.2.2.2⟩
end Go.Proofs.Ytaafmafdnnjmdaa

set_option linter.unusedSimpArgs false
set_option linter.unusedVariables false
namespace Go.Proofs.Ytaafmafdnnjmdaa
open Go.RowKit Go.IntWalk

/-- The search for its sign ends. -/
def Sn.sep (S : Sn) : Prop := ¬ S.fold.nil → 0 < S.fold.lo 8192 ∨ S.fold.hi 8192 < 0
section
variable {fin : VS → List Fact → Prop} {Γ : List Fact} {L M K : Nat}
end
end Go.Proofs.Ytaafmafdnnjmdaa

set_option linter.unusedSimpArgs false
set_option linter.unusedVariables false
namespace Go.Proofs.Ytaafmafdnnjmdaa
open Go.RowKit Go.IntWalk

section
variable {fin : VS → List Fact → Prop} {Γ : List Fact} {L M K : Nat}
end
end Go.Proofs.Ytaafmafdnnjmdaa
