
/- Numbers out of texts: the reference's search for their signs ends. -/
import Derived.Test.YtabpaiboodllbaaGreatRt
set_option linter.unusedSimpArgs false
set_option linter.unusedVariables false
namespace Go.Proofs.YtabpaiboodllbaaGreat
open Go.RowKit Go.IntWalk

theorem madeOk_pos {M N : Int} {ss : List ByteArray} (h : madeOk M N ss = true) : 0 ≤ M ∧ 0 ≤ N := by
  unfold madeOk at h
  simp only [Bool.and_eq_true, decide_eq_true_eq] at h
  exact ⟨h.2.2.1, h.2.2.2⟩
theorem pAt_bits {M N : Int} {ss : List ByteArray} (h : madeOk M N ss = true) (i : Nat) : md 84 84 (pAt ss i) := by
  have hk : 10 ^ 25 < 2 ^ 84 := by decide +kernel
  unfold madeOk at h
  rw [Bool.and_eq_true, Bool.and_eq_true] at h
  have h2 := h.2.1
  unfold pAt
  cases hi : ss[i]? with
  | none => exact md.zero _ _
  | some s =>
    have := List.all_eq_true.1 h2 s (List.mem_of_getElem? hi)
    unfold pgood at this
    rw [Bool.and_eq_true] at this
    exact (bq_qval (of_decide_eq_true this.1) hk).md
theorem int_pow {z : Int} (h : -9223372036854775808 ≤ z ∧ z < 9223372036854775808) : z.natAbs ≤ 2 ^ 63 := by
  have : (2 : Nat) ^ 63 = 9223372036854775808 := by decide +kernel
  omega
/-- A number of four parts so great. -/
def mdS (A D : Nat) (S : Sn) : Prop := md A D S.p ∧ md A D S.q ∧ md A D S.r ∧ md A D S.s
theorem mdS.sub {A D B E : Nat} {S T : Sn} (h : mdS A D S) (g : mdS B E T) : mdS (max A B + 1) (D + E) (S.sub T) :=
  ⟨h.1.sub g.1, h.2.1.sub g.2.1, h.2.2.1.sub g.2.2.1, h.2.2.2.sub g.2.2.2⟩
theorem snOf_bits {M N : Int} {ss : List ByteArray} (h : madeOk M N ss = true) : mdS 84 84 (snOf M N ss) := ⟨pAt_bits h 0, pAt_bits h 1, pAt_bits h 2, pAt_bits h 3⟩
theorem sepS {S : Sn} {A D : Nat} (h : mdS A D S) (hm : 0 ≤ S.m) (hn : 0 ≤ S.n) (cm : S.m.natAbs ≤ 2 ^ 63) (cn : S.n.natAbs ≤ 2 ^ 63) (hE : 24 * D + 9 * 63 + 4 * A + 40 < 8192) : ¬ S.fold.nil → 0 < S.fold.lo 8192 ∨ S.fold.hi 8192 < 0 :=
  sep_all S hm hn cm cn h.1 h.2.1 h.2.2.1 h.2.2.2 hE
end Go.Proofs.YtabpaiboodllbaaGreat
