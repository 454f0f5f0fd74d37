/- Paths of points: small contracts that outline.Of wants. -/
import Derived.Test.YtaafmafdnnjmdaaPf
set_option linter.unusedSimpArgs false
set_option linter.unusedVariables false
namespace Go.Proofs.Ytaafmafdnnjmdaa
open Go.RowKit Go.IntWalk

section
variable {Γ : List Fact}
theorem entC {F : Fact} {Δ : List Fact} (h : ∀ (I : Blk) (w : World), DataOK tb I w → Holds Γ I w → F.p I w) (h' : ∀ (I : Blk) (w : World), DataOK tb I w → Holds Γ I w → Holds Δ I w) : ∀ (I : Blk) (w : World), DataOK tb I w → Holds Γ I w → Holds (F :: Δ) I w := fun I w hd hh => Holds.cons (h I w hd hh) (h' I w hd hh)
theorem entK {α : Type} {k : α → Fact} {a : α} [h : Has k a Γ] : ∀ (I : Blk) (w : World), DataOK tb I w → Holds Γ I w → (k a).p I w := fun I w _ hh => h.p hh
theorem entE : ∀ (I : Blk) (w : World), DataOK tb I w → Holds Γ I w → Holds [] I w := fun I w _ _ => Holds.nil _ _
theorem entOs {L : Nat} {l : List PlE} (e : PlE) [h : Has (OS PlR) (L, l) Γ] [hx : Has (SF e.x) (L, e.X) Γ] [hy : Has (SF e.y) (L, e.Y) Γ] : ∀ (I : Blk) (w : World), DataOK tb I w → Holds Γ I w → (OS PlR (L, l ++ [e])).p I w := fun I w _ hh x hx' => by
  rcases List.mem_append.1 hx' with h1 | h1
  · exact h.p hh x h1
  · simp only [List.mem_cons, List.not_mem_nil, or_false] at h1
    subst h1
    exact ⟨hx.p hh, hy.p hh⟩
theorem entOa {L : Nat} {l l2 : List PlE} {ao : Option Addr} [h : Has (OS PlR) (L, l) Γ] [hx : Has (OL PlR ao) (L, l2) Γ] : ∀ (I : Blk) (w : World), DataOK tb I w → Holds Γ I w → (OS PlR (L, l ++ l2)).p I w := fun I w _ hh x hx' => by
  rcases List.mem_append.1 hx' with h1 | h1
  · exact h.p hh x h1
  · exact (hx.p hh).1 x h1

theorem p_index4 (B : Nat) (k : Int) [Has (RowF B) [.int .i64 0, .int .i64 1, .int .i64 2, .int .i64 4] Γ] :
    PCalls tb Try.prog 59 [.slice (some ⟨B, 0, none⟩) 4 4, .int .i64 k] Γ (fun v Δ => ∃ z : Int, v = .int .i64 z ∧ Δ = [] ∧ decide (z ≥ 0) = (decide (k = 0) || decide (k = 1) || decide (k = 2) || decide (k = 4))) := by
  refine PCalls.of_W tbOk Try.func59 rfl (by kernel_rfl) ?_
  refine W.unr [] 5 (by kernel_rfl) ?_
  refine W.ia [9] 1 B 0 4 4 .i64 0 0 rfl tbOk (by kernel_rfl) (by decide) ?_
  refine W.ld [] 1 B 0 (.int .i64 0) tbOk (by kernel_rfl) (fun I w _ hh => by rw [rowF_cell (Has.p (k := RowF B) (a := [.int .i64 0, .int .i64 1, .int .i64 2, .int .i64 4]) inferInstance hh)]; rfl) ?_
  refine W.d [] 16 (k == 0) (by kernel_rfl) (fun h => ?_) (fun h0 => ?_)
  · exact W.r [16] (.int .i64 0) (by kernel_rfl) ⟨0, rfl, rfl, by have := eq_of_beq h; subst this; decide⟩ ent0
  refine W.ia [9, 16] 1 B 0 4 4 .i64 1 1 rfl tbOk (by kernel_rfl) (by decide) ?_
  refine W.ld [] 1 B 1 (.int .i64 1) tbOk (by kernel_rfl) (fun I w _ hh => by rw [rowF_cell (Has.p (k := RowF B) (a := [.int .i64 0, .int .i64 1, .int .i64 2, .int .i64 4]) inferInstance hh)]; rfl) ?_
  refine W.d [] 16 (k == 1) (by kernel_rfl) (fun h => ?_) (fun h1 => ?_)
  · exact W.r [16] (.int .i64 1) (by kernel_rfl) ⟨1, rfl, rfl, by have := eq_of_beq h; subst this; decide⟩ ent0
  refine W.ia [9, 16] 1 B 0 4 4 .i64 2 2 rfl tbOk (by kernel_rfl) (by decide) ?_
  refine W.ld [] 1 B 2 (.int .i64 2) tbOk (by kernel_rfl) (fun I w _ hh => by rw [rowF_cell (Has.p (k := RowF B) (a := [.int .i64 0, .int .i64 1, .int .i64 2, .int .i64 4]) inferInstance hh)]; rfl) ?_
  refine W.d [] 16 (k == 2) (by kernel_rfl) (fun h => ?_) (fun h2 => ?_)
  · exact W.r [16] (.int .i64 2) (by kernel_rfl) ⟨2, rfl, rfl, by have := eq_of_beq h; subst this; decide⟩ ent0
  refine W.ia [9, 16] 1 B 0 4 4 .i64 3 3 rfl tbOk (by kernel_rfl) (by decide) ?_
  refine W.ld [] 1 B 3 (.int .i64 4) tbOk (by kernel_rfl) (fun I w _ hh => by rw [rowF_cell (Has.p (k := RowF B) (a := [.int .i64 0, .int .i64 1, .int .i64 2, .int .i64 4]) inferInstance hh)]; rfl) ?_
  refine W.d [] 16 (k == 4) (by kernel_rfl) (fun h => ?_) (fun h3 => ?_)
  · exact W.r [16] (.int .i64 3) (by kernel_rfl) ⟨3, rfl, rfl, by have := eq_of_beq h; subst this; decide⟩ ent0
  refine W.r [9, 16] (.int .i64 (-1)) (by kernel_rfl) ⟨-1, rfl, rfl, ?_⟩ ent0
  have e0 : k ≠ 0 := by simpa using h0
  have e1 : k ≠ 1 := by simpa using h1
  have e2 : k ≠ 2 := by simpa using h2
  have e3 : k ≠ 4 := by simpa using h3
  simp [e0, e1, e2, e3]
theorem p_kinds (B : Nat) (k : Int) [Has (RowF B) [.int .i64 0, .int .i64 1, .int .i64 2, .int .i64 4] Γ] :
    PCalls tb Try.prog 23 [.slice (some ⟨B, 0, none⟩) 4 4, .int .i64 k] Γ (IsV (.bool (decide (k = 0) || decide (k = 1) || decide (k = 2) || decide (k = 4)))) := by
  refine PCalls.of_W tbOk Try.func23 rfl (by kernel_rfl) ?_
  refine W.cl [] (by kernel_rfl) (p_index4 B k) ?_
  rintro _ _ ⟨z, rfl, rfl, hz⟩
  exact W.r [] (.bool (decide (z ≥ 0))) (by kernel_rfl) ⟨by rw [hz], rfl⟩ ent0
theorem any_take {α : Type} {p : α → Bool} : ∀ {l : List α}, (∀ i (h : i < l.length), p (l[i]'h) = false) → l.any p = false
  | [], _ => rfl
  | a :: r, h => by
    rw [List.any_cons, any_take (fun i hi => h (i + 1) (by simpa using hi)), Bool.or_false]
    exact h 0 (by simp)
theorem p_indexf (ao : Option Addr) (n c : Nat) (pts : List Dp) [Has (RA ao) (pts.flatMap dpc) Γ] (hn : n = pts.length) (hn2 : n ≤ 8191) :
    PCalls tb Try.prog 60 [.slice ao n c, .func (.func 25) #[] #[]] Γ (fun v Δ => ∃ z : Int, v = .int .i64 z ∧ Δ = [] ∧ decide (z ≥ 0) = pts.any outP) := by
  refine PCalls.of_W tbOk Try.func60 rfl (by kernel_rfl) ?_
  refine W.lp [] [8] (fun a : Nat × Int => [(8, .int .i64 a.2)]) (fun _ => []) (fun _ => [RA ao (pts.flatMap dpc)]) (fun a => a.2 = a.1 ∧ a.1 ≤ n ∧ ∀ i (h : i < pts.length), i < a.1 → outP (pts[i]'h) = false) (fun a => n - a.1) (0, 0) (by kernel_rfl) (by kernel_rfl) ⟨rfl, Nat.zero_le _, fun i _ h => by omega⟩ entRA' ?_
  rintro ⟨i, z⟩ K ⟨hz, hi, hall⟩ close
  simp only at hz hi hall
  by_cases hlt : i < n
  rotate_left
  · refine W.df [] 9 (decide (z < (n : Int))) (by kernel_rfl) (decide_eq_false (by omega)) ?_
    exact W.r [9] (.int .i64 (-1)) (by kernel_rfl) ⟨-1, rfl, rfl, by rw [any_take (fun j hj => hall j hj (by omega))]; rfl⟩ ent0
  have hil : i < pts.length := by omega
  have hcells : ∀ (j : Nat) (v : Value), (dpc (pts[i]'hil))[j]? = some v → (pts.flatMap dpc)[i * 2 + j]? = some v := fun j v hv => dp_at hil hv
  have hmem := List.getElem_mem hil
  have hnext : outP (pts[i]'hil) = false → ∀ j (h : j < pts.length), j < i + 1 → outP (pts[j]'h) = false := fun ho j h hj => by
    by_cases hji : j < i
    · exact hall j h hji
    · obtain rfl : j = i := by omega
      exact ho
  generalize hp : pts[i]'hil = p at *
  refine W.ra ao rfl (by intro e; have := dp_len pts; rw [e] at this; simp at this; omega) (fun ba of e => ?_)
  subst e
  refine W.dt [] 9 (decide (z < (n : Int))) (by kernel_rfl) (decide_eq_true (by omega)) ?_
  refine W.ia [9] 2 ba of n c .i64 i z hz tbOk (by kernel_rfl) hlt ?_
  refine W.lds [] ba (of + i * 2) (dpc p) tbOk (by kernel_rfl) (RA.rdn ba of (i * 2) hcells) ?_
  refine W.cl [] (by kernel_rfl) (p_outP p) ?_
  rintro _ _ ⟨rfl, rfl⟩
  refine W.d [] 16 (outP p) (by kernel_rfl) (fun hb => ?_) (fun hb => ?_)
  · refine W.r [16] (.int .i64 z) (by kernel_rfl) ⟨z, rfl, rfl, ?_⟩ ent0
    rw [decide_eq_true (by omega)]
    exact (List.any_eq_true.2 ⟨p, hmem, hb⟩).symm
  · exact close [16] _ _ (i + 1, IntKind.i64.wrap (z + 1)) (by kernel_rfl) (by kernel_rfl) ⟨by simp only [IntKind.wrap_i64]; omega, hlt, hnext hb⟩ (by simp only; omega) entRA'
theorem p_anyout (ao : Option Addr) (n c : Nat) (pts : List Dp) [Has (RA ao) (pts.flatMap dpc) Γ] (hn : n = pts.length) (hn2 : n ≤ 8191) :
    PCalls tb Try.prog 24 [.slice ao n c, .func (.func 25) #[] #[]] Γ (IsV (.bool (pts.any outP))) := by
  refine PCalls.of_W tbOk Try.func24 rfl (by kernel_rfl) ?_
  refine W.cl [] (by kernel_rfl) (p_indexf ao n c pts hn hn2) ?_
  rintro _ _ ⟨z, rfl, rfl, hz⟩
  exact W.r [] (.bool (decide (z ≥ 0))) (by kernel_rfl) ⟨by rw [hz], rfl⟩ ent0
theorem p_tipB (p d : Dp) (x y : Int) (hx : x = d.x) (hy : y = d.y) (hq bq : Qw) {h b : Rat} {L L1 : Nat} [Has (QG hq) (L, h) Γ] [Has (QG bq) (L1, b) Γ] (r : Bool) (hp : inD 2147483648 p) (hd : inD 4294967296 d) (h0 : sqD d ≠ 0) (hL : L ≤ 5 ∧ L1 ≤ 5 := by omega) :
    PCalls tb Try.prog 29 [dv p, .agg #[.int .i64 x, .int .i64 y], qv hq.n hq.a hq.m hq.b, qv bq.n bq.a bq.m bq.b, .bool r] Γ (PlsP (tipL p d h b r)) := by
  subst hx hy
  cases r
  · exact p_tipF p d hq bq hp hd h0
  · exact p_tipT p d hq bq hp hd h0
end
section
variable {T : Tb} {P : Program} {fin : VS → List Fact → Prop} {c : Cfg} {Γ : List Fact}
/-- A row that grows: at first it is a literal's, which is full. -/
def GrowZ (z : Nat) (O : List (Nat × List Value)) (v : Value) (n : Nat) (xs : List Value) (ao : Option Addr) (ys : List Value) : Prop :=
  (O = [] ∧ v = .slice ao n n ∧ 0 < n ∧ xs.length = n * z ∧ ys = xs) ∨ (Grow z O v n xs ∧ ao = none ∧ ys = [])
theorem W.apz (D : List Nat) (O : List (Nat × List Value)) (z bytes n m : Nat) (ao : Option Addr) (v x : Value) (xs ys news : List Value) (hT : T.Ok P)
    (h : readApp T (vstep T (Go.Proofs.Ytaafmafdnnjmdaa.runs T D 999 c)) = some (O, z, bytes, v, x)) [hrp : Has (RA ao) ys Γ] (hg : GrowZ z O v n xs ao ys) (hm : 0 < m) (hx : Reads T Γ O x m z news) (h1 : ∀ u ∈ news, u.oneCell' = true)
    (hn : n + m ≤ 1000000) (hb : bytes ≤ 100000000)
    (hk : ∀ v' O', Grow z O' v' (n + m) (xs ++ news) → W T P fin (resumeO (vstep T (Go.Proofs.Ytaafmafdnnjmdaa.runs T D 999 c)) O' v') Γ) : W T P fin c Γ := by
  rcases hg with ⟨rfl, rfl, h0, hl, rfl⟩ | ⟨hg, rfl, rfl⟩
  · refine W.apo D [] z bytes n m ao x ys news hT h hl h0 hm hx hn hb (fun g cap cur k1 k2 k3 k4 => hk _ _ ⟨?_, .inr ⟨g, cap, cur, rfl, rfl, k1, k2, k3, k4⟩⟩)
    obtain ⟨_, _, _, hnl, _⟩ := hx
    rw [List.length_append, hl, hnl, Nat.add_mul]
  · exact W.app D O [] O [] z bytes n m v x xs news hT h (by simp) hg hx h1 hn hb (fun v' O' hg' => by simpa using hk v' O' hg')
end
end Go.Proofs.Ytaafmafdnnjmdaa
