
/- Turns out of texts. -/
import Derived.Test.YtabpaiboodllbaaGreatOe
set_option linter.unusedSimpArgs false
set_option linter.unusedVariables false
namespace Go.Proofs.YtabpaiboodllbaaGreat
open Go.RowKit Go.IntWalk

/-- May a turn be made of this? -/
def wayOk (o : Int) (m x y : ByteArray) : Bool := decide (m.size ≤ 30) && (decide (x.size ≤ 30) && (decide (y.size ≤ 30) && (decide (0 ≤ o) && (decide (o ≤ 7) && (qerr m == 0 && (qerr x == 0 && (qerr y == 0 && decide (0 < (qval m).num.sign))))))))
def wayOn (f : Bool) (o : Int) (m x y : ByteArray) : On := ⟨f, o, qval m, qval x, 0, qval y, 0⟩
abbrev nilP : Pw := ⟨0, ⟨none, 0, 0⟩, 0, ⟨none, 0, 0⟩⟩
abbrev nilT : Tw := ⟨0, ⟨none, 0, 0⟩, 0, ⟨none, 0, 0⟩, nilP, nilP, nilP, nilP⟩
def KF (x : Q5) (y : R6) (a : Nat × Bool × On × Rn) : Fact where
  p I w := a.2.1 = true → (OF x (a.1, a.2.2.1)).p I w ∧ (RT y (a.1, a.2.2.2)).p I w
  up := by
    rintro I I' w w' h h1 h2 h3 ha
    exact ⟨(OF x _).up (h ha).1 h1 h2 h3, (RT y _).up (h ha).2 h1 h2 h3⟩
theorem wayOk_spec {o : Int} {m x y : ByteArray} (h : wayOk o m x y = true) : 0 ≤ o ∧ o ≤ 7 ∧ 0 < (qval m).num.sign := by
  unfold wayOk at h
  simp only [Bool.and_eq_true, decide_eq_true_eq, beq_iff_eq] at h
  exact ⟨h.2.2.2.1, h.2.2.2.2.1, h.2.2.2.2.2.2.2.2⟩
section
variable {fin : VS → List Fact → Prop} {Γ : List Fact} {L M K : Nat}
theorem entKF0 {x : Q5} {y : R6} {L' : Nat} {ok : Bool} {V : On} {U : Rn} (h : ok = false) : ∀ (I : Blk) (w : World), DataOK tb I w → Holds Γ I w → Holds [KF x y (L', ok, V, U)] I w := fun I w _ _ => holds1 (fun ha => by simp only at ha; rw [h] at ha; simp at ha)
theorem W.kf {P : Program} {c : Cfg} (x : Q5) (y : R6) {ok : Bool} {V : On} {U : Rn} [h : Has (KF x y) (L, ok, V, U) Γ] (hm : midOps c.k = false) (hok : ok = true) (hk : W tb P fin c (OF x (L, V) :: RT y (L, U) :: Γ)) : W tb P fin c Γ :=
  W.more (Δ := [OF x (L, V), RT y (L, U)]) hm (fun I w _ hh => Holds.cons ((h.p hh) hok).1 (holds1 ((h.p hh) hok).2)) hk

def WPost (f : Bool) (o : Int) (m x y : ByteArray) (v : Value) (Δ : List Fact) : Prop := ∃ (f' : Bool) (o' : Int) (a : Q5) (b : R6), v = .tuple #[ttv f' o' a.g a.a a.b a.c a.d, rtv b.A b.B b.C b.D b.E b.F, .bool (wayOk o m x y)] ∧
  (wayOk o m x y = true → f' = f ∧ o' = o) ∧ Δ = [KF a b (700, wayOk o m x y, wayOn f o m x y, mkRn f (qval m) o (qval x) (qval y))]
theorem wfail {f : Bool} {o : Int} {m x y : ByteArray} (hf : wayOk o m x y = false) : WPost f o m x y (.tuple #[ttv false 0 nilQ nilQ nilQ nilQ nilQ, rtv nilT nilT nilT nilT nilT nilT, .bool false]) [KF ⟨nilQ, nilQ, nilQ, nilQ, nilQ⟩ ⟨nilT, nilT, nilT, nilT, nilT, nilT⟩ (700, wayOk o m x y, wayOn f o m x y, mkRn f (qval m) o (qval x) (qval y))] :=
  ⟨false, 0, ⟨nilQ, nilQ, nilQ, nilQ, nilQ⟩, ⟨nilT, nilT, nilT, nilT, nilT, nilT⟩, by rw [hf], fun h => by rw [hf] at h; simp at h, rfl⟩

set_option maxHeartbeats 8000000 in
theorem p_wmade (f : Bool) (o : Int) (m x y : ByteArray) (hm : m.size ≤ 9223372036854775807) (hx : x.size ≤ 9223372036854775807) (hy : y.size ≤ 9223372036854775807) :
    PCalls tb Tryz.prog 25 [.agg #[.bool f, .int .i64 o, .string m, .string x, .string y]] Γ (WPost f o m x y) := by
  have bad : ∀ {P : Prop} [Decidable P], ¬ P → (wayOk o m x y = true → P) → wayOk o m x y = false := fun {P} _ h1 h2 => by
    cases h : wayOk o m x y with
    | false => rfl
    | true => exact absurd (h2 h) h1
  have un : wayOk o m x y = true → (m.size ≤ 30 ∧ x.size ≤ 30 ∧ y.size ≤ 30 ∧ 0 ≤ o ∧ o ≤ 7 ∧ qerr m = 0 ∧ qerr x = 0 ∧ qerr y = 0 ∧ 0 < (qval m).num.sign) := fun h => by
    unfold wayOk at h
    simpa only [Bool.and_eq_true, decide_eq_true_eq, beq_iff_eq] using h
  refine PCalls.of_W tbOk Tryz.func25 rfl (by kernel_rfl) ?_
  by_cases h1 : 30 < m.size
  · refine W.dt [] 23 (decide ((m.size : Int) > 30)) (by kernel_rfl) (by rw [decide_eq_true_iff]; omega) ?_
    exact W.r [23, 29, 35, 40, 44] _ (by kernel_rfl) (wfail (bad (P := m.size ≤ 30) (by omega) (fun h => (un h).1))) (entKF0 (bad (P := m.size ≤ 30) (by omega) (fun h => (un h).1)))
  refine W.df [] 23 (decide ((m.size : Int) > 30)) (by kernel_rfl) (by rw [decide_eq_false_iff_not]; omega) ?_
  by_cases h2 : 30 < x.size
  · refine W.dt [23] 29 (decide ((x.size : Int) > 30)) (by kernel_rfl) (by rw [decide_eq_true_iff]; omega) ?_
    exact W.r [29, 35, 40, 44] _ (by kernel_rfl) (wfail (bad (P := x.size ≤ 30) (by omega) (fun h => (un h).2.1))) (entKF0 (bad (P := x.size ≤ 30) (by omega) (fun h => (un h).2.1)))
  refine W.df [23] 29 (decide ((x.size : Int) > 30)) (by kernel_rfl) (by rw [decide_eq_false_iff_not]; omega) ?_
  by_cases h3 : 30 < y.size
  · refine W.dt [29] 35 (decide ((y.size : Int) > 30)) (by kernel_rfl) (by rw [decide_eq_true_iff]; omega) ?_
    exact W.r [35, 40, 44] _ (by kernel_rfl) (wfail (bad (P := y.size ≤ 30) (by omega) (fun h => (un h).2.2.1))) (entKF0 (bad (P := y.size ≤ 30) (by omega) (fun h => (un h).2.2.1)))
  refine W.df [29] 35 (decide ((y.size : Int) > 30)) (by kernel_rfl) (by rw [decide_eq_false_iff_not]; omega) ?_
  by_cases h4 : o < 0
  · refine W.dt [35] 40 (decide (o < 0)) (by kernel_rfl) (by rw [decide_eq_true_iff]; omega) ?_
    exact W.r [40, 44] _ (by kernel_rfl) (wfail (bad (P := 0 ≤ o) (by omega) (fun h => (un h).2.2.2.1))) (entKF0 (bad (P := 0 ≤ o) (by omega) (fun h => (un h).2.2.2.1)))
  refine W.df [35] 40 (decide (o < 0)) (by kernel_rfl) (by rw [decide_eq_false_iff_not]; omega) ?_
  by_cases h5 : 7 < o
  · refine W.dt [40] 44 (decide (o > 7)) (by kernel_rfl) (by rw [decide_eq_true_iff]; omega) ?_
    exact W.r [44] _ (by kernel_rfl) (wfail (bad (P := o ≤ 7) (by omega) (fun h => (un h).2.2.2.2.1))) (entKF0 (bad (P := o ≤ 7) (by omega) (fun h => (un h).2.2.2.2.1)))
  refine W.df [40] 44 (decide (o > 7)) (by kernel_rfl) (by rw [decide_eq_false_iff_not]; omega) ?_
  refine W.cl [44] (by kernel_rfl) (p_qparse m hm) ?_
  rintro _ _ ⟨n1, a1, m1, b1, rfl, rfl⟩
  refine W.cl [] (by kernel_rfl) (p_qparse x hx) ?_
  rintro _ _ ⟨n2, a2, m2, b2, rfl, rfl⟩
  refine W.cl [] (by kernel_rfl) (p_qparse y hy) ?_
  rintro _ _ ⟨n3, a3, m3, b3, rfl, rfl⟩
  refine W.cl [] (by kernel_rfl) ((s_parse m hm).info (fun v Δ => ∀ S t R r L, Δ = [PF S t R r (L, qval m)] → S = (qval m).num.sign) (by
    rintro v Δ - I w hh S t R r L rfl
    exact pf_sign (hh _ (.head _)))) ?_
  rintro _ _ ⟨⟨S4, s4, R4, t4, rfl, rfl⟩, hS⟩
  have hS := hS _ _ _ _ _ rfl
  refine W.cl [] (by kernel_rfl) (s_parse x hx) ?_
  rintro _ _ ⟨S5, s5, R5, t5, rfl, rfl⟩
  refine W.cl [] (by kernel_rfl) (s_parse y hy) ?_
  rintro _ _ ⟨S6, s6, R6, t6, rfl, rfl⟩
  by_cases e1' : ¬ (qerr m = 0)
  · have e1 := e1'
    refine W.dt [] 85 (qerr m != 0) (by kernel_rfl) (by simpa using e1) ?_
    exact W.r [85, 89, 93, 101, 106] _ (by kernel_rfl) (wfail (bad e1 (fun h => (un h).2.2.2.2.2.1))) (entKF0 (bad e1 (fun h => (un h).2.2.2.2.2.1)))
  have e1 := Classical.not_not.1 e1'
  rw [e1]
  by_cases e2' : ¬ (qerr x = 0)
  · have e2 := e2'
    refine W.dt [85] 89 (qerr x != 0) (by kernel_rfl) (by simpa using e2) ?_
    exact W.r [89, 93, 101, 106] _ (by kernel_rfl) (wfail (bad e2 (fun h => (un h).2.2.2.2.2.2.1))) (entKF0 (bad e2 (fun h => (un h).2.2.2.2.2.2.1)))
  have e2 := Classical.not_not.1 e2'
  rw [e2]
  by_cases e3' : ¬ (qerr y = 0)
  · have e3 := e3'
    refine W.dt [85, 89] 93 (qerr y != 0) (by kernel_rfl) (by simpa using e3) ?_
    exact W.r [93, 101, 106] _ (by kernel_rfl) (wfail (bad e3 (fun h => (un h).2.2.2.2.2.2.2.1))) (entKF0 (bad e3 (fun h => (un h).2.2.2.2.2.2.2.1)))
  have e3 := Classical.not_not.1 e3'
  rw [e3]
  by_cases hs' : ¬ (0 < (qval m).num.sign)
  · have hs := hs'
    refine W.dt [85, 89, 93, 101] 106 (decide (S4 ≤ 0)) (by kernel_rfl) (by rw [decide_eq_true_iff]; omega) ?_
    exact W.r [106] _ (by kernel_rfl) (wfail (bad hs (fun h => (un h).2.2.2.2.2.2.2.2))) (entKF0 (bad hs (fun h => (un h).2.2.2.2.2.2.2.2)))
  have hs := Classical.not_not.1 hs'
  refine W.df [85, 89, 93, 101] 106 (decide (S4 ≤ 0)) (by kernel_rfl) (by rw [decide_eq_false_iff_not]; omega) ?_
  have hok : wayOk o m x y = true := by
    unfold wayOk
    rw [decide_eq_true (by omega), decide_eq_true (by omega), decide_eq_true (by omega), decide_eq_true (by omega), decide_eq_true (by omega), e1, e2, e3, decide_eq_true hs]
    rfl
  refine W.cl [106] (by kernel_rfl) (p_omake f ⟨n1, a1, m1, b1⟩ o ⟨n2, a2, m2, b2⟩ ⟨n3, a3, m3, b3⟩ (by omega) hs) ?_
  rintro _ _ ⟨rfl, rfl⟩
  refine W.cl [] (by kernel_rfl) (r_make8 f S4 s4 R4 t4 o S5 s5 R5 t5 S6 s6 R6 t6 (by omega)) ?_
  rintro _ _ ⟨x6, rfl, rfl⟩
  refine W.r [] (.tuple #[ttv f o ⟨n1, a1, m1, b1⟩ ⟨n2, a2, m2, b2⟩ nilQ ⟨n3, a3, m3, b3⟩ nilQ, rtv x6.A x6.B x6.C x6.D x6.E x6.F, .bool true]) (by kernel_rfl) ⟨f, o, ⟨⟨n1, a1, m1, b1⟩, ⟨n2, a2, m2, b2⟩, nilQ, ⟨n3, a3, m3, b3⟩, nilQ⟩, x6, by rw [hok], fun _ => ⟨rfl, rfl⟩, rfl⟩ (fun I w hd hh => holds1 (fun _ => ⟨?_, ?_⟩))
  · exact OF.up2 (Has.p (k := OF ⟨⟨n1, a1, m1, b1⟩, ⟨n2, a2, m2, b2⟩, nilQ, ⟨n3, a3, m3, b3⟩, nilQ⟩) inferInstance hh) (by omega)
  · obtain ⟨g1, g2, g3, g4, g5, g6⟩ := (Has.p (k := RT x6) (a := (12 * max 6 (max 6 (min m.size 4096)) + max (max 6 (min x.size 4096)) (max 6 (min y.size 4096)) + 200, mkRn f (qval m) o (qval x) (qval y))) inferInstance hh)
    exact ⟨TF.up2 g1 (by simp only; omega), TF.up2 g2 (by simp only; omega), TF.up2 g3 (by simp only; omega), TF.up2 g4 (by simp only; omega), TF.up2 g5 (by simp only; omega), TF.up2 g6 (by simp only; omega)⟩
end
end Go.Proofs.YtabpaiboodllbaaGreat
