/- What frac's laws share. -/
import Derived.Test.YtmpcabpepnmfiaaFt
set_option linter.unusedSimpArgs false
set_option linter.unusedVariables false
namespace Go.Proofs.Ytmpcabpepnmfiaa
open Go.RowKit Go.IntWalk

/-- A text's number, of its first signs. -/
def qfv (s : ByteArray) : Rat := qval (fewS s 80)
def qok (s : ByteArray) : Bool := qerr (fewS s 80) == 0

section
variable {fin : VS → List Fact → Prop} {Γ : List Fact} {L M : Nat}

theorem p_qfew (s : ByteArray) : PCalls tb Try.prog 112 [.string s] Γ (IsV (.string (fewS s 80))) := by
  refine PCalls.of_W tbOk Try.func112 rfl (by kernel_rfl) ?_
  by_cases h : 80 < s.size
  · refine W.dt [] 5 (decide ((s.size : Int) > 80)) (by kernel_rfl) (by rw [decide_eq_true_iff]; omega) ?_
    refine W.sub' [5] s none (some (.int .i64 ((80 : Nat) : Int))) 0 80 tbOk (by kernel_rfl) (.inr ⟨rfl, rfl⟩) (.inl rfl) (by omega) (by omega) ?_
    exact W.r [] (.string (s.extract 0 80)) (by kernel_rfl) ⟨by unfold fewS; rw [if_pos h], rfl⟩ ent0
  · refine W.df [] 5 (decide ((s.size : Int) > 80)) (by kernel_rfl) (by rw [decide_eq_false_iff_not]; omega) ?_
    exact W.r [5] (.string s) (by kernel_rfl) ⟨by unfold fewS; rw [if_neg h], rfl⟩ ent0

theorem p_qone0 (s : ByteArray) : PCalls tb Try.prog 42 [.string s] Γ (fun v Δ => ∃ (n : Sl) (a : Bool) (m : Sl) (b : Bool) (S : Int) (t : Sl) (R : Int) (r : Sl), v = .tuple #[qv n a m b, pv S t R r, .bool (qok s)] ∧ Δ = [QF n a m b (80, qfv s), PF S t R r (80, qfv s)]) := by
  have hl := fewS_le s 80
  have he : qval (fewS s 80) = qfv s := rfl
  refine PCalls.of_W tbOk Try.func42 rfl (by kernel_rfl) ?_
  refine W.cl [] (by kernel_rfl) (p_qfew s) ?_
  rintro _ _ ⟨rfl, rfl⟩
  refine W.cl [] (by kernel_rfl) (p_qparse (fewS s 80) (by omega)) ?_
  rintro _ _ ⟨n2, a2, m2, b2, rfl, rfl⟩
  refine W.cl [] (by kernel_rfl) (p_qfew s) ?_
  rintro _ _ ⟨rfl, rfl⟩
  refine W.cl [] (by kernel_rfl) (s_parse (fewS s 80) (by omega)) ?_
  rintro _ _ ⟨S4, s4, R4, t4, rfl, rfl⟩
  refine W.dt [] 26 ((qerr (fewS s 80)) == (qerr (fewS s 80))) (by kernel_rfl) (by simp) ?_
  have h2 : (qerr (fewS s 80) == 0) = qok s := rfl
  rw [he]
  generalize qfv s = q at *
  refine W.r [26] (.tuple #[qv n2 a2 m2 b2, pv S4 s4 R4 t4, .bool ((qerr (fewS s 80)) == 0)]) (Δ := [QF n2 a2 m2 b2 (80, q)] ++ [PF S4 s4 R4 t4 (80, q)]) (by kernel_rfl) ⟨n2, a2, m2, b2, S4, s4, R4, t4, by rw [h2], rfl⟩ (entAll ?_ ?_)
  · exact entQ (by omega) rfl
  · exact entP (by omega) rfl
theorem pf_sign {S R : Int} {t r : Sl} {L : Nat} {q : Rat} {I : Blk} {w : World} (h : (PF S t R r (L, q)).p I w) : S = q.num.sign := by
  obtain ⟨x, y, h1, h2, h3, h4⟩ := h
  rw [h1.2]
  exact sign_of h3 h4
theorem p_qone (s : ByteArray) : PCalls tb Try.prog 42 [.string s] Γ (fun v Δ => ∃ (n : Sl) (a : Bool) (m : Sl) (b : Bool) (S : Int) (t : Sl) (R : Int) (r : Sl), v = .tuple #[qv n a m b, pv S t R r, .bool (qok s)] ∧ S = (qfv s).num.sign ∧ Δ = [QF n a m b (80, qfv s), PF S t R r (80, qfv s)]) :=
  ((p_qone0 s).info (fun v Δ => ∀ n a m b S t R r, Δ = [QF n a m b (80, qfv s), PF S t R r (80, qfv s)] → S = (qfv s).num.sign) (by
    rintro v Δ - I w hh n a m b S t R r rfl
    exact pf_sign (hh (PF S t R r (80, qfv s)) (.tail _ (.head _))))).post fun v Δ ⟨⟨n, a, m, b, S, t, R, r, h1, h2⟩, h3⟩ => ⟨n, a, m, b, S, t, R, r, h1, h3 _ _ _ _ _ _ _ _ h2, h2⟩
theorem p_qapart (s : ByteArray) : PCalls tb Try.prog 44 [.string s] Γ (IsV (.bool false)) := by
  have hl := fewS_le s 80
  refine PCalls.of_W tbOk Try.func44 rfl (by kernel_rfl) ?_
  refine W.cl [] (by kernel_rfl) (p_qfew s) ?_
  rintro _ _ ⟨rfl, rfl⟩
  refine W.cl [] (by kernel_rfl) (p_qparse (fewS s 80) (by omega)) ?_
  rintro _ _ ⟨n2, a2, m2, b2, rfl, rfl⟩
  refine W.cl [] (by kernel_rfl) (p_qfew s) ?_
  rintro _ _ ⟨rfl, rfl⟩
  refine W.cl [] (by kernel_rfl) (s_parse (fewS s 80) (by omega)) ?_
  rintro _ _ ⟨S4, s4, R4, t4, rfl, rfl⟩
  exact W.r [] (.bool ((qerr (fewS s 80)) != (qerr (fewS s 80)))) (by kernel_rfl) ⟨by simp, rfl⟩ ent0
theorem p_qsame (n : Sl) (nb : Bool) (d : Sl) (db : Bool) (S : Int) (s : Sl) (R : Int) (t : Sl) {q : Rat} [Has (QF n nb d db) (L, q) Γ] [Has (PF S s R t) (M, q) Γ] (hL : L ≤ 1000000 := by omega) (hM : M ≤ 1000000 := by omega) :
    PCalls tb Try.prog 54 [qv n nb d db, pv S s R t] Γ (IsV (.bool true)) := by
  refine PCalls.of_W tbOk Try.func54 rfl (by kernel_rfl) ?_
  refine W.cl [] (by kernel_rfl) (p_qtext n nb d db) ?_
  rintro _ _ ⟨rfl, rfl⟩
  refine W.cl [] (by kernel_rfl) (s_text S s R t) ?_
  rintro _ _ ⟨rfl, rfl⟩
  exact W.r [] (.bool ((qtxt q).toList == (qtxt q).toList)) (by kernel_rfl) ⟨by simp, rfl⟩ ent0
set_option maxHeartbeats 1000000 in
theorem p_qknown : PCalls tb Try.prog 43 [] Γ (IsV (.bool true)) := by
  refine PCalls.of_W tbOk Try.func43 rfl (by kernel_rfl) ?_
  refine W.cl [] (by kernel_rfl) (p_qof 6 (-4) (by omega) (by omega) (by omega) (by omega) (by omega)) ?_
  rintro _ _ ⟨n1, a1, m1, b1, rfl, rfl⟩
  refine W.cl [] (by kernel_rfl) (p_qparse ⟨#[52, 47, 54]⟩ (by decide)) ?_
  rintro _ _ ⟨n2, a2, m2, b2, rfl, rfl⟩
  refine W.cl [] (by kernel_rfl) (p_qparse ⟨#[49, 47, 48]⟩ (by decide)) ?_
  rintro _ _ ⟨n3, a3, m3, b3, rfl, rfl⟩
  refine W.cl [] (by kernel_rfl) (p_qparse ⟨#[49, 47, 45, 50]⟩ (by decide)) ?_
  rintro _ _ ⟨n4, a4, m4, b4, rfl, rfl⟩
  refine W.cl [27] (by kernel_rfl) (p_qtext n1 a1 m1 b1) ?_
  rintro _ _ ⟨rfl, rfl⟩
  refine W.dt [27] 32 ((qtxt (Rat.divInt 6 (-4))).toList == (⟨#[45, 51, 47, 50]⟩ : ByteArray).toList) (by kernel_rfl) (by decide +kernel) ?_
  refine W.cl [32] (by kernel_rfl) (p_qfloor n1 a1 m1 b1) ?_
  rintro _ _ ⟨u6, d6, rfl, rfl⟩
  refine W.cl [32] (by kernel_rfl) (p_ztext u6 d6) ?_
  rintro _ _ ⟨rfl, rfl⟩
  refine W.dt [32] 38 ((ztxt (qfl (Rat.divInt 6 (-4)))).toList == (⟨#[45, 50]⟩ : ByteArray).toList) (by kernel_rfl) (by decide +kernel) ?_
  refine W.cl [38] (by kernel_rfl) (p_qnear n1 a1 m1 b1) ?_
  rintro _ _ ⟨u8, d8, rfl, rfl⟩
  refine W.cl [38] (by kernel_rfl) (p_ztext u8 d8) ?_
  rintro _ _ ⟨rfl, rfl⟩
  refine W.dt [38] 44 ((ztxt (qnr (Rat.divInt 6 (-4)))).toList == (⟨#[45, 50]⟩ : ByteArray).toList) (by kernel_rfl) (by decide +kernel) ?_
  refine W.dt [44] 48 ((qerr ⟨#[52, 47, 54]⟩) == 0) (by kernel_rfl) (by decide +kernel) ?_
  refine W.cl [48] (by kernel_rfl) (p_qtext n2 a2 m2 b2) ?_
  rintro _ _ ⟨rfl, rfl⟩
  refine W.dt [48] 53 ((qtxt (qval ⟨#[52, 47, 54]⟩)).toList == (⟨#[50, 47, 51]⟩ : ByteArray).toList) (by kernel_rfl) (by decide +kernel) ?_
  refine W.dt [53] 57 ((qerr ⟨#[49, 47, 48]⟩) == 5) (by kernel_rfl) (by decide +kernel) ?_
  refine W.r [57] (.bool ((qerr ⟨#[49, 47, 45, 50]⟩) == 3)) (by kernel_rfl) ⟨?_, rfl⟩ ent0
  rw [show ((qerr ⟨#[49, 47, 45, 50]⟩) == 3) = true from by decide +kernel]
end

end Go.Proofs.Ytmpcabpepnmfiaa
