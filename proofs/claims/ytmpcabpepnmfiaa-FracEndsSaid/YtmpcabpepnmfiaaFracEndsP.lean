/- FracEnds: whatever the texts, the law returns true; no condition. -/
import Derived.Test.YtmpcabpepnmfiaaRows
import Derived.Test.YtmpcabpepnmfiaaFe
import Derived.Test.YtmpcabpepnmfiaaLawZ
import Derived.Test.YtmpcabpepnmfiaaVx
import Derived.Test.YtmpcabpepnmfiaaJn
set_option linter.unusedSimpArgs false
set_option linter.unusedVariables false
namespace Go.Proofs.Ytmpcabpepnmfiaa
open Go.RowKit Go.IntWalk
def P2 (l : List QE) (k : Nat) (x : Rat) (b : Bool) : Prop := (l = [] ∨ ∃ e ∈ l.take k, e.q = x) → b = true
theorem p2_true {l : List QE} {k : Nat} (h : k < l.length) {x : Rat} (h1 : P2 l k x true) : P2 l (k + 1) x true := fun _ => rfl
theorem p2_false {l : List QE} {k : Nat} (h : k < l.length) {x : Rat} (h1 : P2 l k x false) : P2 l (k + 1) x (cmpQ (l[k]'h).q x == 0) := fun h2 => by
  rcases h2 with h2 | ⟨e, he, hx⟩
  · rw [h2] at h; simp at h
  · rcases (take_mem h).1 he with he | rfl
    · exact absurd (h1 (.inr ⟨e, he, hx⟩)) (by decide)
    · rw [cmpQ_eq.2 hx]; rfl
theorem p2_start {l : List QE} {i : Nat} (h : ¬ i = 0) (hl : l.length = i) {x : Rat} : P2 l 0 x false := fun h2 => by
  rcases h2 with h2 | ⟨e, he, _⟩
  · rw [h2] at hl; simp at hl; omega
  · simp at he
theorem p2_end {l : List QE} {k : Nat} (hl : l.length = k) {x : Rat} {b : Bool} (h : P2 l k x b) (hx : LeastOf l x) : b = true := h (by
  rw [List.take_of_length_le (by omega)]
  rcases hx with ⟨h0, _⟩ | ⟨h0, _⟩
  · exact .inl h0
  · exact .inr h0)
theorem p2_endM {l : List QE} {k : Nat} (hl : l.length = k) {x : Rat} {b : Bool} (h : P2 l k x b) (hx : MostOf l x) : b = true := h (by
  rw [List.take_of_length_le (by omega)]
  rcases hx with ⟨h0, _⟩ | ⟨h0, _⟩
  · exact .inl h0
  · exact .inr h0)
/-- What a round knows. -/
structure QSt where
  i : Nat
  z : Int
  v : Value
  O : List (Nat × List Value)
  l : List QE

set_option maxHeartbeats 8000000 in
theorem p_fracEnds (ao : Option Addr) (n c : Nat) (ss : List ByteArray) (hn : n = ss.length) (hs : ∀ s ∈ ss, s.size ≤ 9223372036854775807) : PCalls tb Try.prog 14 [.slice ao n c] [RA ao (ss.map Value.string)] (IsV (.bool true)) := by
  refine PCalls.of_W tbOk Try.func14 rfl (by kernel_rfl) ?_
  refine W.lpo [] [2, 3, 4] (fun a : QSt => [(2, .bool false), (3, a.v), (4, .int .i64 a.z)]) (fun a => []) (fun a => a.O)
    (fun a => [OS QR (80, a.l), RA ao (ss.map Value.string)]) (fun a => a.z = a.i ∧ a.i ≤ 30 ∧ a.i ≤ n ∧ a.l.length = a.i ∧ Grow 4 a.O a.v a.i (a.l.flatMap QR.cells)) (fun a => 30 - a.i)
    ⟨0, 0, .slice none 0 0, [], []⟩ (by kernel_rfl) (by kernel_rfl) ⟨rfl, by simp only; omega, by simp only; omega, rfl, Grow.nil 4⟩ ?_ ?_
  · intro I w hd hh
    exact Holds.cons (fun e he => by simp at he) (holds1 hh.h0')
  rintro ⟨i, z, v, O, l⟩ R ⟨hz, h40, hin, hli, hg⟩ close
  simp only at hz h40 hin hli hg ⊢
  subst hz
  by_cases hgo : i < n ∧ i < 30
  · obtain ⟨hin', hi40⟩ := hgo
    have hsi : i < ss.length := by omega
    have hcell : (ss.map Value.string)[i]? = some (.string (ss[i]'hsi)) := by rw [List.getElem?_map, List.getElem?_eq_getElem hsi]; rfl
    refine W.ra ao (xs := ss.map Value.string) (by kernel_rfl) (by intro e; rw [e] at hcell; simp at hcell) ?_
    rintro B off rfl
    refine W.dt [] 17 (decide ((i : Int) < (n : Nat))) (by kernel_rfl) (by rw [decide_eq_true_iff]; omega) ?_
    refine W.dt [17] 20 (decide ((i : Int) < 30)) (by kernel_rfl) (by rw [decide_eq_true_iff]; omega) ?_
    refine W.ia [20] 1 B off n c .i64 i (i : Int) rfl tbOk (by kernel_rfl) hin' ?_
    refine W.ld [] 1 B (off + i * 1) (.string (ss[i]'hsi)) tbOk (by kernel_rfl) (fun I w _ hh => by
      have := RA.cell (Has.p (k := RA (some ⟨B, off, none⟩)) (a := ss.map Value.string) inferInstance hh) hcell
      rw [Nat.mul_one]
      exact this) ?_
    refine W.cl [] (by kernel_rfl) (p_qone (ss[i]'hsi)) ?_
    rintro _ _ ⟨n4, a4, m4, b4, S4, s4, R4, t4, rfl, hS, rfl⟩
    generalize qfv (ss[i]'hsi) = X at *
    cases hok : qok (ss[i]'hsi) with
    | false =>
      refine W.cl [33] (by kernel_rfl) (p_qknown) ?_
      rintro _ _ ⟨rfl, rfl⟩
      refine W.ia [35] 1 B off n c .i64 i (i : Int) rfl tbOk (by kernel_rfl) hin' ?_
      refine W.ld [35] 1 B (off + i * 1) (.string (ss[i]'hsi)) tbOk (by kernel_rfl) (fun I w _ hh => by
        have := RA.cell (Has.p (k := RA (some ⟨B, off, none⟩)) (a := ss.map Value.string) inferInstance hh) hcell
        rw [Nat.mul_one]
        exact this) ?_
      refine W.cl [35] (by kernel_rfl) (p_qapart (ss[i]'hsi)) ?_
      rintro _ _ ⟨rfl, rfl⟩
      exact W.r [35] (.bool true) (by kernel_rfl) ⟨rfl, rfl⟩ ent0
    | true =>
      refine W.bs [33] 1 (QR.cells ⟨n4, a4, m4, b4, X⟩) tbOk (by kernel_rfl) (fun B5 => ?_)
      refine W.app [] O [] O [] 4 64 i 1 v (.slice (some ⟨B5, 0, none⟩) 1 1) (l.flatMap QR.cells) (QR.cells ⟨n4, a4, m4, b4, X⟩) tbOk (by kernel_rfl) (by simp) hg (reads_row B5 _ 1 4 rfl 1) (by simp [QR, Value.oneCell']) (by omega) (by omega) (fun v' O' hg' => ?_)
      refine close [] _ _ ⟨i + 1, IntKind.i64.wrap ((i : Int) + 1), v', O', l ++ [⟨n4, a4, m4, b4, X⟩]⟩ (by kernel_rfl) ?_ ⟨by simp only; rw [i64_in _ (by omega)]; rfl, by simp only; omega, by simp only; omega, by simp only; rw [List.length_append, hli]; rfl, ?_⟩ (by simp only; omega) ?_
      · simp only [List.nil_append, List.append_nil]
        kernel_rfl
      · simp only [List.flatMap_append, List.flatMap_cons, List.flatMap_nil, List.append_nil]
        exact hg'
      · intro I w hd hh
        refine Holds.cons (fun e he => ?_) (holds1 (Has.p (k := RA (some ⟨B, off, none⟩)) (a := ss.map Value.string) inferInstance hh))
        rcases List.mem_append.1 he with he | he
        · exact (Has.p (k := OS QR) (a := (80, l)) inferInstance hh) e he
        · rw [List.mem_singleton.1 he]
          exact Has.p (k := QF n4 a4 m4 b4) (a := (80, X)) inferInstance hh
  · refine W.pubg rfl hg rfl (fun vo vc hv => ?_)
    subst hv
    by_cases hlt : i < n
    · refine W.dt [] 17 (decide ((i : Int) < (n : Nat))) (by kernel_rfl) (by rw [decide_eq_true_iff]; omega) ?_
      refine W.df [17] 20 (decide ((i : Int) < 30)) (by kernel_rfl) (by rw [decide_eq_false_iff_not]; omega) ?_
      have h0 : ¬ i = 0 := by omega
      refine W.cl [20] (by kernel_rfl) ((p_least (Γ := OL QR vo (80, l) :: _) vo i vc hli.symm (by omega)).weak (fun I w hd h => Holds.cons ⟨Has.p (k := OS QR) (a := (80, l)) inferInstance h, Has.p (k := RA vo) (a := l.flatMap QR.cells) inferInstance h⟩ h) (fun _ _ h => h)) ?_
      rintro _ _ ⟨n2, a2, m2, b2, lo, rfl, hlo, rfl⟩
      refine W.cl [] (by kernel_rfl) ((p_most (Γ := OL QR vo (80, l) :: _) vo i vc hli.symm (by omega)).weak (fun I w hd h => Holds.cons ⟨Has.p (k := OS QR) (a := (80, l)) inferInstance h, Has.p (k := RA vo) (a := l.flatMap QR.cells) inferInstance h⟩ h) (fun _ _ h => h)) ?_
      rintro _ _ ⟨n3, a3, m3, b3, hi, rfl, hhi, rfl⟩
      have ge_lo : ∀ {e : QE}, e ∈ l → ¬ e.q < lo := fun {e} he => by
        rcases hlo with ⟨h0, _⟩ | ⟨_, hall⟩
        · rw [h0] at he; simp at he
        · have := hall e he; grind
      have le_hi : ∀ {e : QE}, e ∈ l → ¬ hi < e.q := fun {e} he => by
        rcases hhi with ⟨h0, _⟩ | ⟨_, hall⟩
        · rw [h0] at he; simp at he
        · have := hall e he; grind
      refine W.df [] 54 (((i : Nat) : Int) == 0) (by kernel_rfl) (by rw [beq_eq_false_iff_ne]; omega) ?_
      refine W.df [54] 62 (((i : Nat) : Int) == 0) (by kernel_rfl) (by rw [beq_eq_false_iff_ne]; omega) ?_
      refine W.lp [62] [2, 10, 11, 12] (fun a : Nat × Int × Bool × Bool => [(2, .bool false), (10, .bool a.2.2.1), (11, .bool a.2.2.2), (12, .int .i64 a.2.1)]) (fun _ => []) (fun _ => [QF n2 a2 m2 b2 (80, lo), QF n3 a3 m3 b3 (80, hi), OL QR vo (80, l)]) (fun a => a.2.1 = a.1 ∧ a.1 ≤ i ∧ P2 l a.1 lo a.2.2.1 ∧ P2 l a.1 hi a.2.2.2) (fun a => i - a.1) (0, 0, false, false) (by kernel_rfl) (by kernel_rfl) ⟨rfl, Nat.zero_le _, p2_start h0 hli, p2_start h0 hli⟩ (fun I w _ hh => Holds.cons (Has.p (k := QF n2 a2 m2 b2) (a := (80, lo)) inferInstance hh) (Holds.cons (Has.p (k := QF n3 a3 m3 b3) (a := (80, hi)) inferInstance hh) (holds1 ⟨Has.p (k := OS QR) (a := (80, l)) inferInstance hh, Has.p (k := RA vo) (a := l.flatMap QR.cells) inferInstance hh⟩))) ?_
      rintro ⟨k, z, am, ab⟩ R2 ⟨hz, hk, h1, h2⟩ close
      simp only at hz hk h1 h2
      subst hz
      by_cases hki : k < i
      · have hkl : k < l.length := by omega
        refine W.el QR vo k hkl rfl (by decide) ?_
        rintro B5 off5 rfl
        refine W.dt [] 70 (decide ((k : Int) < (i : Nat))) (by kernel_rfl) (by rw [decide_eq_true_iff]; omega) ?_
        refine W.ia [70] 4 B5 off5 i vc .i64 k (k : Int) rfl tbOk (by kernel_rfl) hki ?_
        refine W.lds [] B5 (off5 + k * 4) (QR.cells (l[k]'hkl)) tbOk (by kernel_rfl) (OL.told QR B5 off5 k hkl) ?_
        have hF : Has (QF (l[k]'hkl).n (l[k]'hkl).nb (l[k]'hkl).d (l[k]'hkl).db) (80, (l[k]'hkl).q) (QR.fact 80 (l[k]'hkl) :: [QF n2 a2 m2 b2 (80, lo), QF n3 a3 m3 b3 (80, hi), OL QR (some ⟨B5, off5, none⟩) (80, l)]) := Has.head
        refine W.cl [] (by kernel_rfl) (p_qcmp (l[k]'hkl).n (l[k]'hkl).nb (l[k]'hkl).d (l[k]'hkl).db n2 a2 m2 b2) ?_
        rintro _ _ ⟨rfl, rfl⟩
        refine W.df [] 80 (decide ((cmpQ (l[k]'hkl).q lo) < 0)) (by kernel_rfl) (by rw [decide_eq_false_iff_not, cmpQ_lt]; exact ge_lo (List.getElem_mem hkl)) ?_
        refine W.ia [80] 4 B5 off5 i vc .i64 k (k : Int) rfl tbOk (by kernel_rfl) hki ?_
        refine W.lds [80] B5 (off5 + k * 4) (QR.cells (l[k]'hkl)) tbOk (by kernel_rfl) (OL.told QR B5 off5 k hkl) ?_
        refine W.cl [80] (by kernel_rfl) (p_qcmp (l[k]'hkl).n (l[k]'hkl).nb (l[k]'hkl).d (l[k]'hkl).db n3 a3 m3 b3) ?_
        rintro _ _ ⟨rfl, rfl⟩
        refine W.df [80] 88 (decide ((cmpQ (l[k]'hkl).q hi) > 0)) (by kernel_rfl) (by rw [decide_eq_false_iff_not]; exact fun h => le_hi (List.getElem_mem hkl) (cmpQ_gt.1 h)) ?_
        cases am with
        | true =>
          cases ab with
          | true => exact close [100, 90, 88] _ _ (k + 1, IntKind.i64.wrap ((k : Int) + 1), true, true) (by kernel_rfl) (by kernel_rfl) ⟨by simp only; rw [i64_in _ (by omega)]; rfl, by simp only; omega, p2_true hkl h1, p2_true hkl h2⟩ (by simp only; omega) (fun I w _ hh => Holds.cons (Has.p (k := QF n2 a2 m2 b2) (a := (80, lo)) inferInstance hh) (Holds.cons (Has.p (k := QF n3 a3 m3 b3) (a := (80, hi)) inferInstance hh) (holds1 (Has.p (k := OL QR (some ⟨B5, off5, none⟩)) (a := (80, l)) inferInstance hh))))
          | false =>
            refine W.ia [100, 90, 88] 4 B5 off5 i vc .i64 k (k : Int) rfl tbOk (by kernel_rfl) hki ?_
            refine W.lds [100] B5 (off5 + k * 4) (QR.cells (l[k]'hkl)) tbOk (by kernel_rfl) (OL.told QR B5 off5 k hkl) ?_
            refine W.cl [100] (by kernel_rfl) (p_qcmp (l[k]'hkl).n (l[k]'hkl).nb (l[k]'hkl).d (l[k]'hkl).db n3 a3 m3 b3) ?_
            rintro _ _ ⟨rfl, rfl⟩
            exact close [100] _ _ (k + 1, IntKind.i64.wrap ((k : Int) + 1), true, (cmpQ (l[k]'hkl).q hi) == 0) (by kernel_rfl) (by kernel_rfl) ⟨by simp only; rw [i64_in _ (by omega)]; rfl, by simp only; omega, p2_true hkl h1, p2_false hkl h2⟩ (by simp only; omega) (fun I w _ hh => Holds.cons (Has.p (k := QF n2 a2 m2 b2) (a := (80, lo)) inferInstance hh) (Holds.cons (Has.p (k := QF n3 a3 m3 b3) (a := (80, hi)) inferInstance hh) (holds1 (Has.p (k := OL QR (some ⟨B5, off5, none⟩)) (a := (80, l)) inferInstance hh))))
        | false =>
          refine W.ia [90, 88] 4 B5 off5 i vc .i64 k (k : Int) rfl tbOk (by kernel_rfl) hki ?_
          refine W.lds [90] B5 (off5 + k * 4) (QR.cells (l[k]'hkl)) tbOk (by kernel_rfl) (OL.told QR B5 off5 k hkl) ?_
          refine W.cl [90] (by kernel_rfl) (p_qcmp (l[k]'hkl).n (l[k]'hkl).nb (l[k]'hkl).d (l[k]'hkl).db n2 a2 m2 b2) ?_
          rintro _ _ ⟨rfl, rfl⟩
          cases ab with
          | true => exact close [100, 90] _ _ (k + 1, IntKind.i64.wrap ((k : Int) + 1), (cmpQ (l[k]'hkl).q lo) == 0, true) (by kernel_rfl) (by kernel_rfl) ⟨by simp only; rw [i64_in _ (by omega)]; rfl, by simp only; omega, p2_false hkl h1, p2_true hkl h2⟩ (by simp only; omega) (fun I w _ hh => Holds.cons (Has.p (k := QF n2 a2 m2 b2) (a := (80, lo)) inferInstance hh) (Holds.cons (Has.p (k := QF n3 a3 m3 b3) (a := (80, hi)) inferInstance hh) (holds1 (Has.p (k := OL QR (some ⟨B5, off5, none⟩)) (a := (80, l)) inferInstance hh))))
          | false =>
            refine W.ia [100, 90] 4 B5 off5 i vc .i64 k (k : Int) rfl tbOk (by kernel_rfl) hki ?_
            refine W.lds [100] B5 (off5 + k * 4) (QR.cells (l[k]'hkl)) tbOk (by kernel_rfl) (OL.told QR B5 off5 k hkl) ?_
            refine W.cl [100] (by kernel_rfl) (p_qcmp (l[k]'hkl).n (l[k]'hkl).nb (l[k]'hkl).d (l[k]'hkl).db n3 a3 m3 b3) ?_
            rintro _ _ ⟨rfl, rfl⟩
            exact close [100] _ _ (k + 1, IntKind.i64.wrap ((k : Int) + 1), (cmpQ (l[k]'hkl).q lo) == 0, (cmpQ (l[k]'hkl).q hi) == 0) (by kernel_rfl) (by kernel_rfl) ⟨by simp only; rw [i64_in _ (by omega)]; rfl, by simp only; omega, p2_false hkl h1, p2_false hkl h2⟩ (by simp only; omega) (fun I w _ hh => Holds.cons (Has.p (k := QF n2 a2 m2 b2) (a := (80, lo)) inferInstance hh) (Holds.cons (Has.p (k := QF n3 a3 m3 b3) (a := (80, hi)) inferInstance hh) (holds1 (Has.p (k := OL QR (some ⟨B5, off5, none⟩)) (a := (80, l)) inferInstance hh))))
      · obtain rfl : k = i := by omega
        refine W.df [] 70 (decide (((k : Nat) : Int) < (k : Nat))) (by kernel_rfl) (by rw [decide_eq_false_iff_not]; omega) ?_
        refine W.cl [70] (by kernel_rfl) (p_qknown) ?_
        rintro _ _ ⟨rfl, rfl⟩
        obtain rfl : am = true := p2_end hli h1 hlo
        obtain rfl : ab = true := p2_endM hli h2 hhi
        exact W.r [113, 110] (.bool true) (by kernel_rfl) ⟨rfl, rfl⟩ ent0
    · refine W.df [] 17 (decide ((i : Int) < (n : Nat))) (by kernel_rfl) (by rw [decide_eq_false_iff_not]; omega) ?_
      refine W.cl [20, 17] (by kernel_rfl) ((p_least (Γ := OL QR vo (80, l) :: _) vo i vc hli.symm (by omega)).weak (fun I w hd h => Holds.cons ⟨Has.p (k := OS QR) (a := (80, l)) inferInstance h, Has.p (k := RA vo) (a := l.flatMap QR.cells) inferInstance h⟩ h) (fun _ _ h => h)) ?_
      rintro _ _ ⟨n2, a2, m2, b2, lo, rfl, hlo, rfl⟩
      refine W.cl [] (by kernel_rfl) ((p_most (Γ := OL QR vo (80, l) :: _) vo i vc hli.symm (by omega)).weak (fun I w hd h => Holds.cons ⟨Has.p (k := OS QR) (a := (80, l)) inferInstance h, Has.p (k := RA vo) (a := l.flatMap QR.cells) inferInstance h⟩ h) (fun _ _ h => h)) ?_
      rintro _ _ ⟨n3, a3, m3, b3, hi, rfl, hhi, rfl⟩
      have ge_lo : ∀ {e : QE}, e ∈ l → ¬ e.q < lo := fun {e} he => by
        rcases hlo with ⟨h0, _⟩ | ⟨_, hall⟩
        · rw [h0] at he; simp at he
        · have := hall e he; grind
      have le_hi : ∀ {e : QE}, e ∈ l → ¬ hi < e.q := fun {e} he => by
        rcases hhi with ⟨h0, _⟩ | ⟨_, hall⟩
        · rw [h0] at he; simp at he
        · have := hall e he; grind
      by_cases h0 : i = 0
      · have hl0 : l = [] := List.eq_nil_of_length_eq_zero (by omega)
        have hlo0 : lo = 0 := by
          rcases hlo with ⟨_, h⟩ | ⟨⟨e, he, _⟩, _⟩
          · exact h
          · rw [hl0] at he; simp at he
        have hhi0 : hi = 0 := by
          rcases hhi with ⟨_, h⟩ | ⟨⟨e, he, _⟩, _⟩
          · exact h
          · rw [hl0] at he; simp at he
        refine W.dt [] 54 (((i : Nat) : Int) == 0) (by kernel_rfl) (by rw [h0]; rfl) ?_
        refine W.cl [54] (by kernel_rfl) (p_qsign n2 a2 m2 b2) ?_
        rintro _ _ ⟨rfl, rfl⟩
        refine W.dt [54] 62 (((i : Nat) : Int) == 0) (by kernel_rfl) (by rw [h0]; rfl) ?_
        refine W.cl [62] (by kernel_rfl) (p_qsign n3 a3 m3 b3) ?_
        rintro _ _ ⟨rfl, rfl⟩
        refine W.lp [62] [2, 10, 11, 12] (fun a : Nat × Int × Bool × Bool => [(2, .bool false), (10, .bool a.2.2.1), (11, .bool a.2.2.2), (12, .int .i64 a.2.1)]) (fun _ => []) (fun _ => [QF n2 a2 m2 b2 (80, lo), QF n3 a3 m3 b3 (80, hi), OL QR vo (80, l)]) (fun a => a.2.1 = a.1 ∧ a.1 ≤ i ∧ P2 l a.1 lo a.2.2.1 ∧ P2 l a.1 hi a.2.2.2) (fun a => i - a.1) (0, 0, lo.num.sign == 0, hi.num.sign == 0) (by kernel_rfl) (by kernel_rfl) ⟨rfl, Nat.zero_le _, fun _ => by simp only; rw [hlo0]; rfl, fun _ => by simp only; rw [hhi0]; rfl⟩ (fun I w _ hh => Holds.cons (Has.p (k := QF n2 a2 m2 b2) (a := (80, lo)) inferInstance hh) (Holds.cons (Has.p (k := QF n3 a3 m3 b3) (a := (80, hi)) inferInstance hh) (holds1 ⟨Has.p (k := OS QR) (a := (80, l)) inferInstance hh, Has.p (k := RA vo) (a := l.flatMap QR.cells) inferInstance hh⟩))) ?_
        rintro ⟨k, z, am, ab⟩ R2 ⟨hz, hk, h1, h2⟩ close
        simp only at hz hk h1 h2
        subst hz
        by_cases hki : k < i
        · have hkl : k < l.length := by omega
          refine W.el QR vo k hkl rfl (by decide) ?_
          rintro B5 off5 rfl
          refine W.dt [] 70 (decide ((k : Int) < (i : Nat))) (by kernel_rfl) (by rw [decide_eq_true_iff]; omega) ?_
          refine W.ia [70] 4 B5 off5 i vc .i64 k (k : Int) rfl tbOk (by kernel_rfl) hki ?_
          refine W.lds [] B5 (off5 + k * 4) (QR.cells (l[k]'hkl)) tbOk (by kernel_rfl) (OL.told QR B5 off5 k hkl) ?_
          have hF : Has (QF (l[k]'hkl).n (l[k]'hkl).nb (l[k]'hkl).d (l[k]'hkl).db) (80, (l[k]'hkl).q) (QR.fact 80 (l[k]'hkl) :: [QF n2 a2 m2 b2 (80, lo), QF n3 a3 m3 b3 (80, hi), OL QR (some ⟨B5, off5, none⟩) (80, l)]) := Has.head
          refine W.cl [] (by kernel_rfl) (p_qcmp (l[k]'hkl).n (l[k]'hkl).nb (l[k]'hkl).d (l[k]'hkl).db n2 a2 m2 b2) ?_
          rintro _ _ ⟨rfl, rfl⟩
          refine W.df [] 80 (decide ((cmpQ (l[k]'hkl).q lo) < 0)) (by kernel_rfl) (by rw [decide_eq_false_iff_not, cmpQ_lt]; exact ge_lo (List.getElem_mem hkl)) ?_
          refine W.ia [80] 4 B5 off5 i vc .i64 k (k : Int) rfl tbOk (by kernel_rfl) hki ?_
          refine W.lds [80] B5 (off5 + k * 4) (QR.cells (l[k]'hkl)) tbOk (by kernel_rfl) (OL.told QR B5 off5 k hkl) ?_
          refine W.cl [80] (by kernel_rfl) (p_qcmp (l[k]'hkl).n (l[k]'hkl).nb (l[k]'hkl).d (l[k]'hkl).db n3 a3 m3 b3) ?_
          rintro _ _ ⟨rfl, rfl⟩
          refine W.df [80] 88 (decide ((cmpQ (l[k]'hkl).q hi) > 0)) (by kernel_rfl) (by rw [decide_eq_false_iff_not]; exact fun h => le_hi (List.getElem_mem hkl) (cmpQ_gt.1 h)) ?_
          cases am with
          | true =>
            cases ab with
            | true => exact close [100, 90, 88] _ _ (k + 1, IntKind.i64.wrap ((k : Int) + 1), true, true) (by kernel_rfl) (by kernel_rfl) ⟨by simp only; rw [i64_in _ (by omega)]; rfl, by simp only; omega, p2_true hkl h1, p2_true hkl h2⟩ (by simp only; omega) (fun I w _ hh => Holds.cons (Has.p (k := QF n2 a2 m2 b2) (a := (80, lo)) inferInstance hh) (Holds.cons (Has.p (k := QF n3 a3 m3 b3) (a := (80, hi)) inferInstance hh) (holds1 (Has.p (k := OL QR (some ⟨B5, off5, none⟩)) (a := (80, l)) inferInstance hh))))
            | false =>
              refine W.ia [100, 90, 88] 4 B5 off5 i vc .i64 k (k : Int) rfl tbOk (by kernel_rfl) hki ?_
              refine W.lds [100] B5 (off5 + k * 4) (QR.cells (l[k]'hkl)) tbOk (by kernel_rfl) (OL.told QR B5 off5 k hkl) ?_
              refine W.cl [100] (by kernel_rfl) (p_qcmp (l[k]'hkl).n (l[k]'hkl).nb (l[k]'hkl).d (l[k]'hkl).db n3 a3 m3 b3) ?_
              rintro _ _ ⟨rfl, rfl⟩
              exact close [100] _ _ (k + 1, IntKind.i64.wrap ((k : Int) + 1), true, (cmpQ (l[k]'hkl).q hi) == 0) (by kernel_rfl) (by kernel_rfl) ⟨by simp only; rw [i64_in _ (by omega)]; rfl, by simp only; omega, p2_true hkl h1, p2_false hkl h2⟩ (by simp only; omega) (fun I w _ hh => Holds.cons (Has.p (k := QF n2 a2 m2 b2) (a := (80, lo)) inferInstance hh) (Holds.cons (Has.p (k := QF n3 a3 m3 b3) (a := (80, hi)) inferInstance hh) (holds1 (Has.p (k := OL QR (some ⟨B5, off5, none⟩)) (a := (80, l)) inferInstance hh))))
          | false =>
            refine W.ia [90, 88] 4 B5 off5 i vc .i64 k (k : Int) rfl tbOk (by kernel_rfl) hki ?_
            refine W.lds [90] B5 (off5 + k * 4) (QR.cells (l[k]'hkl)) tbOk (by kernel_rfl) (OL.told QR B5 off5 k hkl) ?_
            refine W.cl [90] (by kernel_rfl) (p_qcmp (l[k]'hkl).n (l[k]'hkl).nb (l[k]'hkl).d (l[k]'hkl).db n2 a2 m2 b2) ?_
            rintro _ _ ⟨rfl, rfl⟩
            cases ab with
            | true => exact close [100, 90] _ _ (k + 1, IntKind.i64.wrap ((k : Int) + 1), (cmpQ (l[k]'hkl).q lo) == 0, true) (by kernel_rfl) (by kernel_rfl) ⟨by simp only; rw [i64_in _ (by omega)]; rfl, by simp only; omega, p2_false hkl h1, p2_true hkl h2⟩ (by simp only; omega) (fun I w _ hh => Holds.cons (Has.p (k := QF n2 a2 m2 b2) (a := (80, lo)) inferInstance hh) (Holds.cons (Has.p (k := QF n3 a3 m3 b3) (a := (80, hi)) inferInstance hh) (holds1 (Has.p (k := OL QR (some ⟨B5, off5, none⟩)) (a := (80, l)) inferInstance hh))))
            | false =>
              refine W.ia [100, 90] 4 B5 off5 i vc .i64 k (k : Int) rfl tbOk (by kernel_rfl) hki ?_
              refine W.lds [100] B5 (off5 + k * 4) (QR.cells (l[k]'hkl)) tbOk (by kernel_rfl) (OL.told QR B5 off5 k hkl) ?_
              refine W.cl [100] (by kernel_rfl) (p_qcmp (l[k]'hkl).n (l[k]'hkl).nb (l[k]'hkl).d (l[k]'hkl).db n3 a3 m3 b3) ?_
              rintro _ _ ⟨rfl, rfl⟩
              exact close [100] _ _ (k + 1, IntKind.i64.wrap ((k : Int) + 1), (cmpQ (l[k]'hkl).q lo) == 0, (cmpQ (l[k]'hkl).q hi) == 0) (by kernel_rfl) (by kernel_rfl) ⟨by simp only; rw [i64_in _ (by omega)]; rfl, by simp only; omega, p2_false hkl h1, p2_false hkl h2⟩ (by simp only; omega) (fun I w _ hh => Holds.cons (Has.p (k := QF n2 a2 m2 b2) (a := (80, lo)) inferInstance hh) (Holds.cons (Has.p (k := QF n3 a3 m3 b3) (a := (80, hi)) inferInstance hh) (holds1 (Has.p (k := OL QR (some ⟨B5, off5, none⟩)) (a := (80, l)) inferInstance hh))))
        · obtain rfl : k = i := by omega
          refine W.df [] 70 (decide (((k : Nat) : Int) < (k : Nat))) (by kernel_rfl) (by rw [decide_eq_false_iff_not]; omega) ?_
          refine W.cl [70] (by kernel_rfl) (p_qknown) ?_
          rintro _ _ ⟨rfl, rfl⟩
          obtain rfl : am = true := p2_end hli h1 hlo
          obtain rfl : ab = true := p2_endM hli h2 hhi
          exact W.r [113, 110] (.bool true) (by kernel_rfl) ⟨rfl, rfl⟩ ent0
      · refine W.df [] 54 (((i : Nat) : Int) == 0) (by kernel_rfl) (by rw [beq_eq_false_iff_ne]; omega) ?_
        refine W.df [54] 62 (((i : Nat) : Int) == 0) (by kernel_rfl) (by rw [beq_eq_false_iff_ne]; omega) ?_
        refine W.lp [62] [2, 10, 11, 12] (fun a : Nat × Int × Bool × Bool => [(2, .bool false), (10, .bool a.2.2.1), (11, .bool a.2.2.2), (12, .int .i64 a.2.1)]) (fun _ => []) (fun _ => [QF n2 a2 m2 b2 (80, lo), QF n3 a3 m3 b3 (80, hi), OL QR vo (80, l)]) (fun a => a.2.1 = a.1 ∧ a.1 ≤ i ∧ P2 l a.1 lo a.2.2.1 ∧ P2 l a.1 hi a.2.2.2) (fun a => i - a.1) (0, 0, false, false) (by kernel_rfl) (by kernel_rfl) ⟨rfl, Nat.zero_le _, p2_start h0 hli, p2_start h0 hli⟩ (fun I w _ hh => Holds.cons (Has.p (k := QF n2 a2 m2 b2) (a := (80, lo)) inferInstance hh) (Holds.cons (Has.p (k := QF n3 a3 m3 b3) (a := (80, hi)) inferInstance hh) (holds1 ⟨Has.p (k := OS QR) (a := (80, l)) inferInstance hh, Has.p (k := RA vo) (a := l.flatMap QR.cells) inferInstance hh⟩))) ?_
        rintro ⟨k, z, am, ab⟩ R2 ⟨hz, hk, h1, h2⟩ close
        simp only at hz hk h1 h2
        subst hz
        by_cases hki : k < i
        · have hkl : k < l.length := by omega
          refine W.el QR vo k hkl rfl (by decide) ?_
          rintro B5 off5 rfl
          refine W.dt [] 70 (decide ((k : Int) < (i : Nat))) (by kernel_rfl) (by rw [decide_eq_true_iff]; omega) ?_
          refine W.ia [70] 4 B5 off5 i vc .i64 k (k : Int) rfl tbOk (by kernel_rfl) hki ?_
          refine W.lds [] B5 (off5 + k * 4) (QR.cells (l[k]'hkl)) tbOk (by kernel_rfl) (OL.told QR B5 off5 k hkl) ?_
          have hF : Has (QF (l[k]'hkl).n (l[k]'hkl).nb (l[k]'hkl).d (l[k]'hkl).db) (80, (l[k]'hkl).q) (QR.fact 80 (l[k]'hkl) :: [QF n2 a2 m2 b2 (80, lo), QF n3 a3 m3 b3 (80, hi), OL QR (some ⟨B5, off5, none⟩) (80, l)]) := Has.head
          refine W.cl [] (by kernel_rfl) (p_qcmp (l[k]'hkl).n (l[k]'hkl).nb (l[k]'hkl).d (l[k]'hkl).db n2 a2 m2 b2) ?_
          rintro _ _ ⟨rfl, rfl⟩
          refine W.df [] 80 (decide ((cmpQ (l[k]'hkl).q lo) < 0)) (by kernel_rfl) (by rw [decide_eq_false_iff_not, cmpQ_lt]; exact ge_lo (List.getElem_mem hkl)) ?_
          refine W.ia [80] 4 B5 off5 i vc .i64 k (k : Int) rfl tbOk (by kernel_rfl) hki ?_
          refine W.lds [80] B5 (off5 + k * 4) (QR.cells (l[k]'hkl)) tbOk (by kernel_rfl) (OL.told QR B5 off5 k hkl) ?_
          refine W.cl [80] (by kernel_rfl) (p_qcmp (l[k]'hkl).n (l[k]'hkl).nb (l[k]'hkl).d (l[k]'hkl).db n3 a3 m3 b3) ?_
          rintro _ _ ⟨rfl, rfl⟩
          refine W.df [80] 88 (decide ((cmpQ (l[k]'hkl).q hi) > 0)) (by kernel_rfl) (by rw [decide_eq_false_iff_not]; exact fun h => le_hi (List.getElem_mem hkl) (cmpQ_gt.1 h)) ?_
          cases am with
          | true =>
            cases ab with
            | true => exact close [100, 90, 88] _ _ (k + 1, IntKind.i64.wrap ((k : Int) + 1), true, true) (by kernel_rfl) (by kernel_rfl) ⟨by simp only; rw [i64_in _ (by omega)]; rfl, by simp only; omega, p2_true hkl h1, p2_true hkl h2⟩ (by simp only; omega) (fun I w _ hh => Holds.cons (Has.p (k := QF n2 a2 m2 b2) (a := (80, lo)) inferInstance hh) (Holds.cons (Has.p (k := QF n3 a3 m3 b3) (a := (80, hi)) inferInstance hh) (holds1 (Has.p (k := OL QR (some ⟨B5, off5, none⟩)) (a := (80, l)) inferInstance hh))))
            | false =>
              refine W.ia [100, 90, 88] 4 B5 off5 i vc .i64 k (k : Int) rfl tbOk (by kernel_rfl) hki ?_
              refine W.lds [100] B5 (off5 + k * 4) (QR.cells (l[k]'hkl)) tbOk (by kernel_rfl) (OL.told QR B5 off5 k hkl) ?_
              refine W.cl [100] (by kernel_rfl) (p_qcmp (l[k]'hkl).n (l[k]'hkl).nb (l[k]'hkl).d (l[k]'hkl).db n3 a3 m3 b3) ?_
              rintro _ _ ⟨rfl, rfl⟩
              exact close [100] _ _ (k + 1, IntKind.i64.wrap ((k : Int) + 1), true, (cmpQ (l[k]'hkl).q hi) == 0) (by kernel_rfl) (by kernel_rfl) ⟨by simp only; rw [i64_in _ (by omega)]; rfl, by simp only; omega, p2_true hkl h1, p2_false hkl h2⟩ (by simp only; omega) (fun I w _ hh => Holds.cons (Has.p (k := QF n2 a2 m2 b2) (a := (80, lo)) inferInstance hh) (Holds.cons (Has.p (k := QF n3 a3 m3 b3) (a := (80, hi)) inferInstance hh) (holds1 (Has.p (k := OL QR (some ⟨B5, off5, none⟩)) (a := (80, l)) inferInstance hh))))
          | false =>
            refine W.ia [90, 88] 4 B5 off5 i vc .i64 k (k : Int) rfl tbOk (by kernel_rfl) hki ?_
            refine W.lds [90] B5 (off5 + k * 4) (QR.cells (l[k]'hkl)) tbOk (by kernel_rfl) (OL.told QR B5 off5 k hkl) ?_
            refine W.cl [90] (by kernel_rfl) (p_qcmp (l[k]'hkl).n (l[k]'hkl).nb (l[k]'hkl).d (l[k]'hkl).db n2 a2 m2 b2) ?_
            rintro _ _ ⟨rfl, rfl⟩
            cases ab with
            | true => exact close [100, 90] _ _ (k + 1, IntKind.i64.wrap ((k : Int) + 1), (cmpQ (l[k]'hkl).q lo) == 0, true) (by kernel_rfl) (by kernel_rfl) ⟨by simp only; rw [i64_in _ (by omega)]; rfl, by simp only; omega, p2_false hkl h1, p2_true hkl h2⟩ (by simp only; omega) (fun I w _ hh => Holds.cons (Has.p (k := QF n2 a2 m2 b2) (a := (80, lo)) inferInstance hh) (Holds.cons (Has.p (k := QF n3 a3 m3 b3) (a := (80, hi)) inferInstance hh) (holds1 (Has.p (k := OL QR (some ⟨B5, off5, none⟩)) (a := (80, l)) inferInstance hh))))
            | false =>
              refine W.ia [100, 90] 4 B5 off5 i vc .i64 k (k : Int) rfl tbOk (by kernel_rfl) hki ?_
              refine W.lds [100] B5 (off5 + k * 4) (QR.cells (l[k]'hkl)) tbOk (by kernel_rfl) (OL.told QR B5 off5 k hkl) ?_
              refine W.cl [100] (by kernel_rfl) (p_qcmp (l[k]'hkl).n (l[k]'hkl).nb (l[k]'hkl).d (l[k]'hkl).db n3 a3 m3 b3) ?_
              rintro _ _ ⟨rfl, rfl⟩
              exact close [100] _ _ (k + 1, IntKind.i64.wrap ((k : Int) + 1), (cmpQ (l[k]'hkl).q lo) == 0, (cmpQ (l[k]'hkl).q hi) == 0) (by kernel_rfl) (by kernel_rfl) ⟨by simp only; rw [i64_in _ (by omega)]; rfl, by simp only; omega, p2_false hkl h1, p2_false hkl h2⟩ (by simp only; omega) (fun I w _ hh => Holds.cons (Has.p (k := QF n2 a2 m2 b2) (a := (80, lo)) inferInstance hh) (Holds.cons (Has.p (k := QF n3 a3 m3 b3) (a := (80, hi)) inferInstance hh) (holds1 (Has.p (k := OL QR (some ⟨B5, off5, none⟩)) (a := (80, l)) inferInstance hh))))
        · obtain rfl : k = i := by omega
          refine W.df [] 70 (decide (((k : Nat) : Int) < (k : Nat))) (by kernel_rfl) (by rw [decide_eq_false_iff_not]; omega) ?_
          refine W.cl [70] (by kernel_rfl) (p_qknown) ?_
          rintro _ _ ⟨rfl, rfl⟩
          obtain rfl : am = true := p2_end hli h1 hlo
          obtain rfl : ab = true := p2_endM hli h2 hhi
          exact W.r [113, 110] (.bool true) (by kernel_rfl) ⟨rfl, rfl⟩ ent0

end Go.Proofs.Ytmpcabpepnmfiaa
namespace Go.Proofs.Ytmpcabpepnmfiaa.fracEnds
open Go.ChangeShapes Go.WideShapes Go.ChangeAt Go.RowKit
open Go.ChangeMaps (open_string shut_string)

theorem closed : joinedFacts Try.pinned.checked.prog 14 Try.f14 Rows.fracEndsSpec Rows.fracEndsRow = true := by
  unfold joinedFacts
  rw [show Try.pinned.checked.prog.mayEnter = true from jn_enter, show (Rows.fracEndsRow.lifted == Try.pinned.checked.prog.liftsFinal) = true from jn_lift, show (Try.pinned.checked.prog.make == some Rows.fracEndsRow.make) = true from jn_make,
    show laidOutB Try.pinned.checked.prog = true from jn_laid, show mapsRowed Try.pinned.checked.prog = true from jn_maps]
  kernel_rfl

set_option maxRecDepth 100000 in
theorem lifted (os : Os) (started : os.Started) (H : Type) (enc : TypeId × Value → H) :
    ReturnsInHanded {} Try.checked os 14 .any (Rows.fracEndsSpec.pre6 enc Try.prog Try.f14 Rows.fracEndsRow.domain false) (Rows.fracEndsSpec.post enc Try.prog Try.f14 false true false false) := by
  refine returnsInHanded_of_change (C := Try.checked) jn_own started (by kernel_rfl) Try.func14
    (ChangeSpec.witness6 (enc := enc) (C := Try.checked) false ⟨#[], #[.slice none 0 0], []⟩ 8 (by kernel_rfl) (by kernel_rfl) (by kernel_rfl) (by kernel_rfl)) ?_
  intro W base args ds gs before hval0 hW hcnd _
  have hval : ∀ (j : Nat) t v, Try.f14.params[j]? = some t → args[j]? = some v → Value.okWide Try.prog W .any base t v := hval0
  have hW' := hW
  obtain ⟨p, q, hA0, hV, rfl, hfz, hnd⟩ := hW
  have hA : DataW.TrodAll enc Try.prog W 0 (fun _ => true) true Try.f14.params.toList args.toList ds p := hA0
  have hK := hA
  rw [Try.params14] at hA hval hK
  obtain ⟨v0, vs0, d0, ds0, p0, q0, hargs, rfl, rfl, h0, r0⟩ := trodAll_cons hA
  obtain ⟨rfl, rfl, rfl⟩ := trodAll_nil r0
  obtain rfl : args = #[v0] := by cases args; simp_all
  obtain ⟨rfl, rfl⟩ := trodVars_none hV
  obtain ⟨ao0, n0, c0, hv0⟩ := okWide_slice Try.underlying22 (hval 0 22 v0 rfl rfl)
  obtain ⟨a0, e0, w0, g0⟩ := row_strs Try.underlying22 Try.underlying9 (by kernel_rfl) hv0 h0
  subst hv0
  clear hA0 hval0
  simp only [List.append_nil] at hW' hK
  refine (law_calls' (p_fracEnds ao0 n0 c0 a0 e0 w0) W (Holds.cons g0 (Holds.nil _ _))).mono fun e W' ⟨he, hg⟩ => ?_
  subst he
  exact ⟨_, rfl, law_post hW' rfl (fun _ _ _ => (trodAll_cons_mk (shut_bool Try.underlying4 _) trodAll_mk0)) (fun sp hsp => trodAll_stays jn_laid hg (by kernel_rfl) hK (fun x hx => hW'.lt x (by first | exact hx | simpa using hx)) (fun x hx => hsp x (by first | exact hx | simpa using hx))) rfl hg⟩

theorem over : Rows.fracEndsRow.holds Try.pinned (OpenSpec.ofChange Rows.fracEndsSpec) :=
  OpenClaim.holds_of_wide 14 Try.f14 rfl rfl rfl rfl rfl rfl rfl ⟨rfl, rfl, rfl, rfl, rfl⟩ rfl rfl rfl rfl rfl (by kernel_rfl) Try.func14 closed
    (of_decide_eq_true (by kernel_rfl)) (by unfold Func.isWrapper; first | (rw [if_pos (by decide +kernel)]; kernel_rfl) | (rw [if_neg (by decide +kernel)]; exact ⟨rfl, rfl⟩))
    (fun os started H enc _ => lifted os started H enc)
end Go.Proofs.Ytmpcabpepnmfiaa.fracEnds
namespace Go.Proofs.Ytmpcabpepnmfiaa

/-- The statement. -/
theorem fracEnds_holds : Rows.FracEndsSaid := fracEnds.over
end Go.Proofs.Ytmpcabpepnmfiaa
