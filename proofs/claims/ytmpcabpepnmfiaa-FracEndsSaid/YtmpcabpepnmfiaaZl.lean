/- What zed's laws share. -/
import Derived.Test.YtmpcabpepnmfiaaZed
set_option linter.unusedSimpArgs false
set_option linter.unusedVariables false
namespace Go.Proofs.Ytmpcabpepnmfiaa
open Go.RowKit Go.IntWalk

theorem fewS_of {s : ByteArray} {n : Nat} (h : s.size ≤ n) : fewS s n = s := by unfold fewS; rw [if_neg (by omega)]

section
variable {fin : VS → List Fact → Prop} {Γ : List Fact} {L M : Nat}

theorem p_few (s : ByteArray) : PCalls tb Try.prog 96 [.string s] Γ (IsV (.string (fewS s 150))) := by
  refine PCalls.of_W tbOk Try.func96 rfl (by kernel_rfl) ?_
  by_cases h : 150 < s.size
  · refine W.dt [] 5 (decide ((s.size : Int) > 150)) (by kernel_rfl) (by rw [decide_eq_true_iff]; omega) ?_
    refine W.sub' [5] s none (some (.int .i64 ((150 : Nat) : Int))) 0 150 tbOk (by kernel_rfl) (.inr ⟨rfl, rfl⟩) (.inl rfl) (by omega) (by omega) ?_
    exact W.r [] (.string (s.extract 0 150)) (by kernel_rfl) ⟨by unfold fewS; rw [if_pos h], rfl⟩ ent0
  · refine W.df [] 5 (decide ((s.size : Int) > 150)) (by kernel_rfl) (by rw [decide_eq_false_iff_not]; omega) ?_
    exact W.r [5] (.string s) (by kernel_rfl) ⟨by unfold fewS; rw [if_neg h], rfl⟩ ent0

/-- A text's number, of its first signs. -/
def zfv (s : ByteArray) : Int := zval (fewS s 150)
def zok (s : ByteArray) : Bool := zerr (fewS s 150) == 0

theorem p_one0 (s : ByteArray) : PCalls tb Try.prog 22 [.string s] Γ (fun v Δ => ∃ (u : Sl) (d : Bool) (S : Int) (t : Sl), v = .tuple #[zv u d, yv S t, .bool (zok s)] ∧ Δ = [ZF u d (150, zfv s), YF S t (150, zfv s)]) := by
  refine PCalls.of_W tbOk Try.func22 rfl (by kernel_rfl) ?_
  have hl := fewS_le s 150
  refine W.cl [] (by kernel_rfl) (p_few s) ?_
  rintro _ _ ⟨rfl, rfl⟩
  refine W.cl [] (by kernel_rfl) (p_zparse (fewS s 150) (by omega)) ?_
  rintro _ _ ⟨u, d, rfl, rfl⟩
  refine W.cl [] (by kernel_rfl) (p_few s) ?_
  rintro _ _ ⟨rfl, rfl⟩
  refine W.cl [] (by kernel_rfl) (p_yparse (fewS s 150) (by omega)) ?_
  rintro _ _ ⟨S, t, rfl, rfl⟩
  refine W.dt [] 26 (zerr (fewS s 150) == zerr (fewS s 150)) (by kernel_rfl) (by simp) ?_
  exact W.r [26] (.tuple #[zv u d, yv S t, .bool (zerr (fewS s 150) == 0)]) (by kernel_rfl) ⟨u, d, S, t, rfl, rfl⟩ (entAll (entZ (by omega) rfl) (entY (by omega) rfl))

theorem p_one (s : ByteArray) : PCalls tb Try.prog 22 [.string s] Γ (fun v Δ => ∃ (u : Sl) (d : Bool) (S : Int) (t : Sl), v = .tuple #[zv u d, yv S t, .bool (zok s)] ∧ S = (zfv s).sign ∧ Δ = [ZF u d (150, zfv s), YF S t (150, zfv s)]) :=
  ((p_one0 s).info (fun v Δ => ∀ u d S t, Δ = [ZF u d (150, zfv s), YF S t (150, zfv s)] → S = (zfv s).sign) (by
    rintro v Δ - I w hh u d S t rfl
    exact (hh (YF S t (150, zfv s)) (by simp)).2)).post fun v Δ ⟨⟨u, d, S, t, h1, h2⟩, h3⟩ => ⟨u, d, S, t, h1, h3 u d S t h2, h2⟩

theorem p_apart (s : ByteArray) : PCalls tb Try.prog 24 [.string s] Γ (IsV (.bool false)) := by
  refine PCalls.of_W tbOk Try.func24 rfl (by kernel_rfl) ?_
  have hl := fewS_le s 150
  refine W.cl [] (by kernel_rfl) (p_few s) ?_
  rintro _ _ ⟨rfl, rfl⟩
  refine W.cl [] (by kernel_rfl) (p_zparse (fewS s 150) (by omega)) ?_
  rintro _ _ ⟨u, d, rfl, rfl⟩
  refine W.cl [] (by kernel_rfl) (p_few s) ?_
  rintro _ _ ⟨rfl, rfl⟩
  refine W.cl [] (by kernel_rfl) (p_yparse (fewS s 150) (by omega)) ?_
  rintro _ _ ⟨S, t, rfl, rfl⟩
  exact W.r [] (.bool (zerr (fewS s 150) != zerr (fewS s 150))) (by kernel_rfl) ⟨by simp, rfl⟩ ent0

theorem p_same (s : Sl) (b : Bool) (S : Int) (t : Sl) {x : Int} [Has (ZF s b) (L, x) Γ] [Has (YF S t) (M, x) Γ] (hL : L ≤ 1000000 := by omega) (hM : M ≤ 1000000 := by omega) :
    PCalls tb Try.prog 26 [zv s b, yv S t] Γ (IsV (.bool true)) := by
  refine PCalls.of_W tbOk Try.func26 rfl (by kernel_rfl) ?_
  refine W.cl [] (by kernel_rfl) (p_ztext s b) ?_
  rintro _ _ ⟨rfl, rfl⟩
  refine W.cl [] (by kernel_rfl) (p_ytext S t) ?_
  rintro _ _ ⟨rfl, rfl⟩
  exact W.r [] (.bool ((ztxt x).toList == (ztxt x).toList)) (by kernel_rfl) ⟨by simp, rfl⟩ ent0

theorem p_zknown : PCalls tb Try.prog 23 [] Γ (IsV (.bool true)) := by
  refine PCalls.of_W tbOk Try.func23 rfl (by kernel_rfl) ?_
  refine W.cl [] (by kernel_rfl) (p_zparse ⟨#[45, 48]⟩ (by decide)) ?_
  rintro _ _ ⟨u1, d1, rfl, rfl⟩
  refine W.cl [] (by kernel_rfl) (p_zof (-7) (by omega) (by omega)) ?_
  rintro _ _ ⟨u2, d2, rfl, rfl⟩
  refine W.cl [] (by kernel_rfl) (p_zof 2 (by omega) (by omega)) ?_
  rintro _ _ ⟨u3, d3, rfl, rfl⟩
  refine W.cl [] (by kernel_rfl) (p_zfloor u2 d2 u3 d3 (by omega)) ?_
  rintro _ _ ⟨q, e, r, f, rfl, rfl⟩
  refine W.cl [] (by kernel_rfl) (p_zof 7 (by omega) (by omega)) ?_
  rintro _ _ ⟨u4, d4, rfl, rfl⟩
  refine W.cl [] (by kernel_rfl) (p_zof (-2) (by omega) (by omega)) ?_
  rintro _ _ ⟨u5, d5, rfl, rfl⟩
  refine W.cl [] (by kernel_rfl) (p_zfloor u4 d4 u5 d5 (by omega)) ?_
  rintro _ _ ⟨q2, e2, r2, f2, rfl, rfl⟩
  refine W.dt [] 29 (zerr ⟨#[45, 48]⟩ == 3) (by kernel_rfl) (by decide +kernel) ?_
  refine W.cl [37, 33, 29] (by kernel_rfl) (p_ztext q e) ?_
  rintro _ _ ⟨rfl, rfl⟩
  refine W.dt [37] 42 ((ztxt (-7 / 2)).toList == (⟨#[45, 52]⟩ : ByteArray).toList) (by kernel_rfl) (by decide +kernel) ?_
  refine W.cl [42] (by kernel_rfl) (p_ztext r f) ?_
  rintro _ _ ⟨rfl, rfl⟩
  refine W.dt [42] 47 ((ztxt (-7 % 2)).toList == (⟨#[49]⟩ : ByteArray).toList) (by kernel_rfl) (by decide +kernel) ?_
  refine W.cl [47] (by kernel_rfl) (p_ztext q2 e2) ?_
  rintro _ _ ⟨rfl, rfl⟩
  refine W.dt [47] 52 ((ztxt (7 / -2)).toList == (⟨#[45, 51]⟩ : ByteArray).toList) (by kernel_rfl) (by decide +kernel) ?_
  refine W.cl [52] (by kernel_rfl) (p_ztext r2 f2) ?_
  rintro _ _ ⟨rfl, rfl⟩
  refine W.r [52] (.bool ((ztxt (7 % -2)).toList == (⟨#[49]⟩ : ByteArray).toList)) (by kernel_rfl) ⟨?_, rfl⟩ ent0
  rw [show ((ztxt (7 % -2)).toList == (⟨#[49]⟩ : ByteArray).toList) = true from by decide +kernel]
end

end Go.Proofs.Ytmpcabpepnmfiaa
