/- The least and the greatest of some quotients. -/
import Derived.Test.YtmpcabpepnmfiaaFl
import Derived.Test.YtmpcabpepnmfiaaVy
set_option linter.unusedSimpArgs false
set_option linter.unusedVariables false
namespace Go.Proofs.Ytmpcabpepnmfiaa
open Go.RowKit Go.IntWalk

/-- Quotients in rows. -/
structure QE where
  n : Sl
  nb : Bool
  d : Sl
  db : Bool
  q : Rat
def QR : Rowed QE where
  z := 4
  cells e := [.slice e.n.ao e.n.n e.n.c, .bool e.nb, .slice e.d.ao e.d.n e.d.c, .bool e.db]
  len _ := rfl
  fact L e := QF e.n e.nb e.d e.db (L, e.q)

def LeastOf (l : List QE) (q : Rat) : Prop := (l = [] ∧ q = 0) ∨ ((∃ e ∈ l, e.q = q) ∧ ∀ e ∈ l, q ≤ e.q)
def MostOf (l : List QE) (q : Rat) : Prop := (l = [] ∧ q = 0) ∨ ((∃ e ∈ l, e.q = q) ∧ ∀ e ∈ l, e.q ≤ q)

theorem take_mem {α : Type} {l : List α} {k : Nat} (h : k < l.length) {e : α} : e ∈ l.take (k + 1) ↔ e ∈ l.take k ∨ e = l[k]'h := by
  rw [List.take_succ_eq_append_getElem h, List.mem_append, List.mem_singleton]

theorem least_first {l : List QE} (h : 0 < l.length) : LeastOf (l.take (0 + 1)) (l[0]'h).q := by
  refine .inr ⟨⟨_, (take_mem h).2 (.inr rfl), rfl⟩, fun e he => ?_⟩
  rcases (take_mem h).1 he with he | rfl
  · simp at he
  · exact Rat.le_refl
theorem least_new {l : List QE} {k : Nat} (h : k < l.length) (hk : 0 < k) {q : Rat} (hq : LeastOf (l.take k) q) (hc : (l[k]'h).q < q) : LeastOf (l.take (k + 1)) (l[k]'h).q := by
  refine .inr ⟨⟨_, (take_mem h).2 (.inr rfl), rfl⟩, fun e he => ?_⟩
  rcases (take_mem h).1 he with he | rfl
  · rcases hq with ⟨h0, _⟩ | ⟨_, hall⟩
    · rw [h0] at he; simp at he
    · have := hall e he
      grind
  · exact Rat.le_refl
theorem least_old {l : List QE} {k : Nat} (h : k < l.length) (hk : 0 < k) {q : Rat} (hq : LeastOf (l.take k) q) (hc : ¬ (l[k]'h).q < q) : LeastOf (l.take (k + 1)) q := by
  rcases hq with ⟨h0, _⟩ | ⟨⟨e, he, hq⟩, hall⟩
  · have := congrArg List.length h0
    rw [List.length_take, List.length_nil] at this
    omega
  · refine .inr ⟨⟨e, (take_mem h).2 (.inl he), hq⟩, fun e he => ?_⟩
    rcases (take_mem h).1 he with he | rfl
    · exact hall e he
    · grind
theorem most_first {l : List QE} (h : 0 < l.length) : MostOf (l.take (0 + 1)) (l[0]'h).q := by
  refine .inr ⟨⟨_, (take_mem h).2 (.inr rfl), rfl⟩, fun e he => ?_⟩
  rcases (take_mem h).1 he with he | rfl
  · simp at he
  · exact Rat.le_refl
theorem most_new {l : List QE} {k : Nat} (h : k < l.length) (hk : 0 < k) {q : Rat} (hq : MostOf (l.take k) q) (hc : q < (l[k]'h).q) : MostOf (l.take (k + 1)) (l[k]'h).q := by
  refine .inr ⟨⟨_, (take_mem h).2 (.inr rfl), rfl⟩, fun e he => ?_⟩
  rcases (take_mem h).1 he with he | rfl
  · rcases hq with ⟨h0, _⟩ | ⟨_, hall⟩
    · rw [h0] at he; simp at he
    · have := hall e he
      grind
  · exact Rat.le_refl
theorem most_old {l : List QE} {k : Nat} (h : k < l.length) (hk : 0 < k) {q : Rat} (hq : MostOf (l.take k) q) (hc : ¬ q < (l[k]'h).q) : MostOf (l.take (k + 1)) q := by
  rcases hq with ⟨h0, _⟩ | ⟨⟨e, he, hq⟩, hall⟩
  · have := congrArg List.length h0
    rw [List.length_take, List.length_nil] at this
    omega
  · refine .inr ⟨⟨e, (take_mem h).2 (.inl he), hq⟩, fun e he => ?_⟩
    rcases (take_mem h).1 he with he | rfl
    · exact hall e he
    · grind

section
variable {Γ : List Fact} {L M : Nat}
theorem p_least (ao : Option Addr) (n c : Nat) {l : List QE} [h : Has (OL QR ao) (L, l) Γ] (hn : n = l.length) (hl : n ≤ 1000) (hL : L ≤ 100000 := by omega) :
    PCalls tb Try.prog 72 [.slice ao n c] Γ (fun v Δ => ∃ (n : Sl) (a : Bool) (m : Sl) (b : Bool) (q : Rat), v = qv n a m b ∧ LeastOf l q ∧ Δ = [QF n a m b (L, q)]) := by
  refine PCalls.of_W tbOk Try.func72 rfl (by kernel_rfl) ?_
  refine W.lp [] [8] (fun a : Nat × Int × QE => [(8, .int .i64 a.2.1)]) (fun a => [(3, QR.cells a.2.2)]) (fun a => [QF a.2.2.n a.2.2.nb a.2.2.d a.2.2.db (L, a.2.2.q), OL QR ao (L, l)]) (fun a => a.2.1 = a.1 ∧ a.1 ≤ n ∧ LeastOf (l.take a.1) a.2.2.q) (fun a => n - a.1) (0, 0, ⟨⟨none, 0, 0⟩, false, ⟨none, 0, 0⟩, false, 0⟩) (by kernel_rfl) (by kernel_rfl) ⟨rfl, Nat.zero_le _, .inl ⟨by simp, rfl⟩⟩ (entAll (Δ := [_]) (Δ' := [_]) entQ0 (fun I w _ hh => holds1 (h.p hh))) ?_
  rintro ⟨k, z, ⟨u, ub, t, tb', q⟩⟩ R ⟨hz, hk, hq⟩ close
  simp only at hz hk hq
  subst hz
  by_cases hks : k < n
  · have hkl : k < l.length := by omega
    refine W.el QR ao k hkl rfl (by decide) ?_
    rintro B off rfl
    refine W.dt [] 9 (decide ((k : Int) < (n : Nat))) (by kernel_rfl) (by rw [decide_eq_true_iff]; omega) ?_
    refine W.ia [9] 4 B off n c .i64 k (k : Int) rfl tbOk (by kernel_rfl) hks ?_
    refine W.lds [] B (off + k * 4) (QR.cells (l[k]'hkl)) tbOk (by kernel_rfl) (OL.told QR B off k hkl) ?_
    have hF : ∀ Γ', Has (QF (l[k]'hkl).n (l[k]'hkl).nb (l[k]'hkl).d (l[k]'hkl).db) (L, (l[k]'hkl).q) (QR.fact L (l[k]'hkl) :: Γ') := fun _ => Has.head
    have hF0 := hF [QF u ub t tb' (L, q), OL QR (some ⟨B, off, none⟩) (L, l)]
    have fin : ∀ (e : QE) (q' : Rat) Γ', e.q = q' → (∀ I w, Holds Γ' I w → (QF e.n e.nb e.d e.db (L, q')).p I w) → (∀ I w, Holds Γ' I w → (OL QR (some ⟨B, off, none⟩) (L, l)).p I w) → ∀ I w, DataOK tb I w → Holds Γ' I w → Holds [QF e.n e.nb e.d e.db (L, e.q), OL QR (some ⟨B, off, none⟩) (L, l)] I w := fun e q' Γ' he h1 h2 I w _ hh => by
      subst he
      exact Holds.cons (h1 I w hh) (holds1 (h2 I w hh))
    by_cases h0 : k = 0
    · subst h0
      refine W.dt [] 15 (((0 : Nat) : Int) == 0) (by kernel_rfl) rfl ?_
      exact close [20, 15] _ _ (0 + 1, IntKind.i64.wrap (((0 : Nat) : Int) + 1), l[0]'hkl) (by kernel_rfl) (by kernel_rfl) ⟨rfl, by simp only; omega, least_first hkl⟩ (by simp only; omega) (fin (l[0]'hkl) _ _ rfl (fun I w hh => Has.p hF0 hh) (fun I w hh => Has.p (k := OL QR (some ⟨B, off, none⟩)) (a := (L, l)) inferInstance hh))
    · refine W.df [] 15 ((k : Int) == 0) (by kernel_rfl) (by rw [beq_eq_false_iff_ne]; omega) ?_
      refine W.cl [15] (by kernel_rfl) (p_qcmp (l[k]'hkl).n (l[k]'hkl).nb (l[k]'hkl).d (l[k]'hkl).db u ub t tb') ?_
      rintro _ _ ⟨rfl, rfl⟩
      refine W.d [15] 20 (decide ((cmpQ (l[k]'hkl).q q) < 0)) (by kernel_rfl) (fun hb => ?_) (fun hb => ?_)
      · have hb := cmpQ_lt.1 (of_decide_eq_true hb)
        exact close [20] _ _ (k + 1, IntKind.i64.wrap ((k : Int) + 1), l[k]'hkl) (by kernel_rfl) (by kernel_rfl) ⟨by simp only; rw [i64_in _ (by omega)]; rfl, by simp only; omega, least_new hkl (by omega) hq hb⟩ (by simp only; omega) (fin (l[k]'hkl) _ _ rfl (fun I w hh => Has.p hF0 hh) (fun I w hh => Has.p (k := OL QR (some ⟨B, off, none⟩)) (a := (L, l)) inferInstance hh))
      · have hb := fun h => (of_decide_eq_false hb) (cmpQ_lt.2 h)
        exact close [20] _ _ (k + 1, IntKind.i64.wrap ((k : Int) + 1), ⟨u, ub, t, tb', q⟩) (by kernel_rfl) (by kernel_rfl) ⟨by simp only; rw [i64_in _ (by omega)]; rfl, by simp only; omega, least_old hkl (by omega) hq hb⟩ (by simp only; omega) (fin ⟨u, ub, t, tb', q⟩ _ _ rfl (fun I w hh => Has.p (k := QF u ub t tb') (a := (L, q)) inferInstance hh) (fun I w hh => Has.p (k := OL QR (some ⟨B, off, none⟩)) (a := (L, l)) inferInstance hh))
  · obtain rfl : k = n := by omega
    refine W.df [] 9 (decide (((k : Nat) : Int) < (k : Nat))) (by kernel_rfl) (by rw [decide_eq_false_iff_not]; omega) ?_
    rw [List.take_of_length_le (by omega)] at hq
    exact W.r [9] (qv u ub t tb') (by kernel_rfl) ⟨u, ub, t, tb', q, rfl, hq, rfl⟩ (entQ (Nat.le_refl _) rfl)
theorem p_most (ao : Option Addr) (n c : Nat) {l : List QE} [h : Has (OL QR ao) (L, l) Γ] (hn : n = l.length) (hl : n ≤ 1000) (hL : L ≤ 100000 := by omega) :
    PCalls tb Try.prog 73 [.slice ao n c] Γ (fun v Δ => ∃ (n : Sl) (a : Bool) (m : Sl) (b : Bool) (q : Rat), v = qv n a m b ∧ MostOf l q ∧ Δ = [QF n a m b (L, q)]) := by
  refine PCalls.of_W tbOk Try.func73 rfl (by kernel_rfl) ?_
  refine W.lp [] [8] (fun a : Nat × Int × QE => [(8, .int .i64 a.2.1)]) (fun a => [(3, QR.cells a.2.2)]) (fun a => [QF a.2.2.n a.2.2.nb a.2.2.d a.2.2.db (L, a.2.2.q), OL QR ao (L, l)]) (fun a => a.2.1 = a.1 ∧ a.1 ≤ n ∧ MostOf (l.take a.1) a.2.2.q) (fun a => n - a.1) (0, 0, ⟨⟨none, 0, 0⟩, false, ⟨none, 0, 0⟩, false, 0⟩) (by kernel_rfl) (by kernel_rfl) ⟨rfl, Nat.zero_le _, .inl ⟨by simp, rfl⟩⟩ (entAll (Δ := [_]) (Δ' := [_]) entQ0 (fun I w _ hh => holds1 (h.p hh))) ?_
  rintro ⟨k, z, ⟨u, ub, t, tb', q⟩⟩ R ⟨hz, hk, hq⟩ close
  simp only at hz hk hq
  subst hz
  by_cases hks : k < n
  · have hkl : k < l.length := by omega
    refine W.el QR ao k hkl rfl (by decide) ?_
    rintro B off rfl
    refine W.dt [] 9 (decide ((k : Int) < (n : Nat))) (by kernel_rfl) (by rw [decide_eq_true_iff]; omega) ?_
    refine W.ia [9] 4 B off n c .i64 k (k : Int) rfl tbOk (by kernel_rfl) hks ?_
    refine W.lds [] B (off + k * 4) (QR.cells (l[k]'hkl)) tbOk (by kernel_rfl) (OL.told QR B off k hkl) ?_
    have hF : ∀ Γ', Has (QF (l[k]'hkl).n (l[k]'hkl).nb (l[k]'hkl).d (l[k]'hkl).db) (L, (l[k]'hkl).q) (QR.fact L (l[k]'hkl) :: Γ') := fun _ => Has.head
    have hF0 := hF [QF u ub t tb' (L, q), OL QR (some ⟨B, off, none⟩) (L, l)]
    have fin : ∀ (e : QE) (q' : Rat) Γ', e.q = q' → (∀ I w, Holds Γ' I w → (QF e.n e.nb e.d e.db (L, q')).p I w) → (∀ I w, Holds Γ' I w → (OL QR (some ⟨B, off, none⟩) (L, l)).p I w) → ∀ I w, DataOK tb I w → Holds Γ' I w → Holds [QF e.n e.nb e.d e.db (L, e.q), OL QR (some ⟨B, off, none⟩) (L, l)] I w := fun e q' Γ' he h1 h2 I w _ hh => by
      subst he
      exact Holds.cons (h1 I w hh) (holds1 (h2 I w hh))
    by_cases h0 : k = 0
    · subst h0
      refine W.dt [] 15 (((0 : Nat) : Int) == 0) (by kernel_rfl) rfl ?_
      exact close [20, 15] _ _ (0 + 1, IntKind.i64.wrap (((0 : Nat) : Int) + 1), l[0]'hkl) (by kernel_rfl) (by kernel_rfl) ⟨rfl, by simp only; omega, most_first hkl⟩ (by simp only; omega) (fin (l[0]'hkl) _ _ rfl (fun I w hh => Has.p hF0 hh) (fun I w hh => Has.p (k := OL QR (some ⟨B, off, none⟩)) (a := (L, l)) inferInstance hh))
    · refine W.df [] 15 ((k : Int) == 0) (by kernel_rfl) (by rw [beq_eq_false_iff_ne]; omega) ?_
      refine W.cl [15] (by kernel_rfl) (p_qcmp (l[k]'hkl).n (l[k]'hkl).nb (l[k]'hkl).d (l[k]'hkl).db u ub t tb') ?_
      rintro _ _ ⟨rfl, rfl⟩
      refine W.d [15] 20 (decide ((cmpQ (l[k]'hkl).q q) > 0)) (by kernel_rfl) (fun hb => ?_) (fun hb => ?_)
      · have hb := cmpQ_gt.1 (of_decide_eq_true hb)
        exact close [20] _ _ (k + 1, IntKind.i64.wrap ((k : Int) + 1), l[k]'hkl) (by kernel_rfl) (by kernel_rfl) ⟨by simp only; rw [i64_in _ (by omega)]; rfl, by simp only; omega, most_new hkl (by omega) hq hb⟩ (by simp only; omega) (fin (l[k]'hkl) _ _ rfl (fun I w hh => Has.p hF0 hh) (fun I w hh => Has.p (k := OL QR (some ⟨B, off, none⟩)) (a := (L, l)) inferInstance hh))
      · have hb := fun h => (of_decide_eq_false hb) (cmpQ_gt.2 h)
        exact close [20] _ _ (k + 1, IntKind.i64.wrap ((k : Int) + 1), ⟨u, ub, t, tb', q⟩) (by kernel_rfl) (by kernel_rfl) ⟨by simp only; rw [i64_in _ (by omega)]; rfl, by simp only; omega, most_old hkl (by omega) hq hb⟩ (by simp only; omega) (fin ⟨u, ub, t, tb', q⟩ _ _ rfl (fun I w hh => Has.p (k := QF u ub t tb') (a := (L, q)) inferInstance hh) (fun I w hh => Has.p (k := OL QR (some ⟨B, off, none⟩)) (a := (L, l)) inferInstance hh))
  · obtain rfl : k = n := by omega
    refine W.df [] 9 (decide (((k : Nat) : Int) < (k : Nat))) (by kernel_rfl) (by rw [decide_eq_false_iff_not]; omega) ?_
    rw [List.take_of_length_le (by omega)] at hq
    exact W.r [9] (qv u ub t tb') (by kernel_rfl) ⟨u, ub, t, tb', q, rfl, hq, rfl⟩ (entQ (Nat.le_refl _) rfl)
end

end Go.Proofs.Ytmpcabpepnmfiaa
