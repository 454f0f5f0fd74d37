/- The reference of outline: its corners. -/
import Derived.Test.YtaafmafdnnjmdaaGreatQa
import Derived.Test.YtaafmafdnnjmdaaGreatPo
set_option linter.unusedSimpArgs false
set_option linter.unusedVariables false
namespace Go.Proofs.YtaafmafdnnjmdaaGreat
open Go.RowKit Go.IntWalk

def AdjOk (D : List Dp) : Prop := ∀ (i : Nat) (a b : Dp), D[i]? = some a → D[i + 1]? = some b → a ≠ b
theorem dd_adj {D : List Dp} (h : AdjOk D) (p : Dp) : AdjOk (ddR D p) := by
  unfold ddR
  split
  · exact h
  · rename_i hp
    intro i a b ha hb
    cases i with
    | zero =>
      simp at ha hb
      subst ha
      rintro rfl
      exact hp (by rw [List.head?_eq_getElem?]; exact hb)
    | succ i => exact h i a b ha hb
theorem dd_fold_adj : ∀ (pts : List Dp) (D : List Dp), AdjOk D → AdjOk (pts.foldl ddR D)
  | [], _, h => h
  | p :: r, D, h => dd_fold_adj r _ (dd_adj h p)
theorem dd_mem : ∀ (pts D : List Dp) {Q : Dp → Prop}, (∀ p ∈ pts, Q p) → (∀ p ∈ D, Q p) → ∀ p ∈ pts.foldl ddR D, Q p
  | [], _, _, _, h => h
  | q :: r, D, Q, hq, h => dd_mem r (ddR D q) (fun p hp => hq p (List.mem_cons_of_mem _ hp)) (fun p hp => by
    unfold ddR at hp
    split at hp
    · exact h p hp
    · rcases List.mem_cons.1 hp with rfl | hp
      · exact hq _ List.mem_cons_self
      · exact h p hp)
theorem dd_head (D : List Dp) (p : Dp) : (ddR D p).head? = some p := by
  unfold ddR
  split
  · assumption
  · rfl
theorem dd_take {pts : List Dp} {i : Nat} {p : Dp} (h : pts[i]? = some p) (D : List Dp) : (pts.take (i + 1)).foldl ddR D = ddR ((pts.take i).foldl ddR D) p := by
  rw [take_snoc h, List.foldl_append]
  rfl
structure DSt where
  i : Nat
  z : Int
  v : Value
  O : List (Nat × List Value)
  D : List Dp
theorem rev_snoc (D : List Dp) (p : Dp) : (p :: D).reverse.flatMap dpc = D.reverse.flatMap dpc ++ dpc p := dp_snoc D p
theorem dpc_ne' {l : List Dp} (h : 0 < l.length) : l.reverse.flatMap dpc ≠ [] := by
  intro e
  have := dp_len l.reverse
  rw [e] at this
  simp at this
  omega
section
variable {Γ : List Fact} {L M : Nat}
theorem r_corner (b o n c : Nat) (cs : List Dp) (i : Nat) (z : Int) (hz : z = i) (S : Int) (s : Sl) (R : Int) (t : Sl) {h : Rat} [Has (RA (some ⟨b, o, none⟩)) (cs.flatMap dpc) Γ] [Has (PF S s R t) (L, h) Γ] (p0 p p2 : Dp) (hi : 0 < i) (hn : i + 1 < n) (hn2 : n ≤ 1000000)
    (g0 : cs[i - 1]? = some p0) (g1 : cs[i]? = some p) (g2 : cs[i + 1]? = some p2) (b0 : inD 2147483648 p0) (b1 : inD 2147483648 p) (b2 : inD 2147483648 p2) (d0 : p0 ≠ p) (d1 : p ≠ p2) (hL : L ≤ 20 := by omega) :
    PCalls tb Tryz.prog 28 [.slice (some ⟨b, o, none⟩) n c, .int .i64 z, pv S s R t] Γ (fun v Δ => ∃ e : TwE, v = .agg (twc e).toArray ∧ e.num = rcorn p (wayv p0 p) (wayv p p2) h ∧ Δ = [TwR.fact 20 e]) := by
  have w1 := way_in b0 b1 d0
  have w2 := way_in b1 b2 d1
  refine PCalls.of_W tbOk Tryz.func28 rfl (by kernel_rfl) ?_
  refine W.ia [] 2 b o n c .i64 (i - 1) (IntKind.i64.wrap (z - 1)) (by rw [IntKind.wrap_i64]; omega) tbOk (by kernel_rfl) (by omega) ?_
  refine W.lds [] b (o + (i - 1) * 2) (dpc p0) tbOk (by kernel_rfl) (RA.rdn b o ((i - 1) * 2) (dp_atq g0)) ?_
  refine W.ia [] 2 b o n c .i64 i z hz tbOk (by kernel_rfl) (by omega) ?_
  refine W.lds [] b (o + i * 2) (dpc p) tbOk (by kernel_rfl) (RA.rdn b o (i * 2) (dp_atq g1)) ?_
  refine W.ia [] 2 b o n c .i64 i z hz tbOk (by kernel_rfl) (by omega) ?_
  refine W.lds [] b (o + i * 2) (dpc p) tbOk (by kernel_rfl) (RA.rdn b o (i * 2) (dp_atq g1)) ?_
  refine W.ia [] 2 b o n c .i64 (i + 1) (IntKind.i64.wrap (z + 1)) (by rw [IntKind.wrap_i64]; omega) tbOk (by kernel_rfl) (by omega) ?_
  refine W.lds [] b (o + (i + 1) * 2) (dpc p2) tbOk (by kernel_rfl) (RA.rdn b o ((i + 1) * 2) (dp_atq g2)) ?_
  refine W.cl [] (by kernel_rfl) (r_way p0 p b0 b1 d0) ?_
  rintro _ _ ⟨rfl, rfl⟩
  refine W.cl [] (by kernel_rfl) (r_way p p2 b1 b2 d1) ?_
  rintro _ _ ⟨rfl, rfl⟩
  refine W.cl [] (by kernel_rfl) (r_sq9 (wayv p0 p) w1) ?_
  rintro _ _ ⟨S1, t1, rfl, rfl⟩
  refine W.cl [] (by kernel_rfl) (r_sq9 (wayv p p2) w2) ?_
  rintro _ _ ⟨S2, t2, rfl, rfl⟩
  refine W.ia [] 2 b o n c .i64 i z hz tbOk (by kernel_rfl) (by omega) ?_
  refine W.lds [] b (o + i * 2) (dpc p) tbOk (by kernel_rfl) (RA.rdn b o (i * 2) (dp_atq g1)) ?_
  refine W.ia [] 2 b o n c .i64 i z hz tbOk (by kernel_rfl) (by omega) ?_
  refine W.lds [] b (o + i * 2) (dpc p) tbOk (by kernel_rfl) (RA.rdn b o (i * 2) (dp_atq g1)) ?_
  refine W.cl [] (by kernel_rfl) (r_left (wayv p0 p) w1) ?_
  rintro _ _ ⟨rfl, rfl⟩
  refine W.cl [] (by kernel_rfl) (r_left (wayv p p2) w2) ?_
  rintro _ _ ⟨rfl, rfl⟩
  exact W.r [] (.agg (twc ⟨⟨p, leftD (wayv p0 p), S, s, R, t, S1, t1, false⟩, ⟨p, leftD (wayv p p2), S, s, R, t, S2, t2, false⟩, S1, t1, S2, t2, h, sqD (wayv p0 p), h, sqD (wayv p p2), sqD (wayv p0 p), sqD (wayv p p2)⟩).toArray) (by kernel_rfl)
    ⟨⟨⟨p, leftD (wayv p0 p), S, s, R, t, S1, t1, false⟩, ⟨p, leftD (wayv p p2), S, s, R, t, S2, t2, false⟩, S1, t1, S2, t2, h, sqD (wayv p0 p), h, sqD (wayv p p2), sqD (wayv p0 p), sqD (wayv p p2)⟩, rfl, rfl, rfl⟩ (entC (two_fact _) entE)
--<rc
set_option maxHeartbeats 4000000 in
theorem r_corners (ao : Option Addr) (n c : Nat) (pts : List Dp) [Has (RA ao) (pts.flatMap dpc) Γ] (hn : n = pts.length) (hn2 : n ≤ 8191) (ha : 0 < n → ∃ b off, ao = some ⟨b, off, none⟩) (hb : ∀ p ∈ pts, inD 2147483648 p) :
    PCalls tb Tryz.prog 22 [.slice ao n c] Γ (fun v Δ => ∃ (a1 : Option Addr) (c1 : Nat), v = .slice a1 (corn pts).1.length c1 ∧ Δ = [RA a1 ((corn pts).1.reverse.flatMap dpc)]) := by
  rw [corn_eq]
  refine PCalls.of_W tbOk Tryz.func22 rfl (by kernel_rfl) ?_
  refine W.lpo [] [3, 4] (fun a : DSt => [(3, a.v), (4, .int .i64 a.z)]) (fun _ => []) (fun a => a.O) (fun _ => [RA ao (pts.flatMap dpc)]) (fun a => a.z = a.i ∧ a.i ≤ n ∧ a.D = (pts.take a.i).foldl ddR [] ∧ a.D.length ≤ a.i ∧ Grow 2 a.O a.v a.D.length (a.D.reverse.flatMap dpc)) (fun a => n - a.i) ⟨0, 0, .slice none 0 0, [], []⟩ (by kernel_rfl) (by kernel_rfl) ⟨rfl, Nat.zero_le _, rfl, Nat.le_refl _, Grow.nil 2⟩ (entC entK entE) ?_
  rintro ⟨i, z, v, O, D⟩ K ⟨hz, hi, hD, hDl, hg⟩ close
  simp only at hz hi hD hDl hg
  by_cases hlt : i < n
  · obtain ⟨p, hp⟩ : ∃ p, pts[i]? = some p := ⟨_, List.getElem?_eq_getElem (by omega)⟩
    have hstep := dd_take hp []
    rw [← hD] at hstep
    obtain ⟨b, o, e⟩ := ha (by omega)
    subst e
    refine W.dt [] 10 (decide (z < (n : Int))) (by kernel_rfl) (decide_eq_true (by omega)) ?_
    by_cases hi0 : i = 0
    · subst hi0
      obtain rfl : D = [] := List.eq_nil_of_length_eq_zero (by omega)
      refine W.dt [10] 15 (z == 0) (by kernel_rfl) (by rw [hz]; rfl) ?_
      refine W.ia [26, 15] 2 b o n c .i64 0 z hz tbOk (by kernel_rfl) hlt ?_
      refine W.lds [] b (o + 0 * 2) (dpc p) tbOk (by kernel_rfl) (RA.rdn b o (0 * 2) (dp_atq hp)) ?_
      refine W.bs [] 1 (dpc p) tbOk (by kernel_rfl) (fun B => ?_)
      refine W.app [] O [] O [] 2 16 0 1 v (.slice (some ⟨B, 0, none⟩) 1 1) [] (dpc p) tbOk (by kernel_rfl) (by simp) hg (reads_row B O 1 2 rfl 1) (dp_one _) (by omega) (by decide) (fun v' O' hg' => ?_)
      exact close [] _ _ ⟨1, IntKind.i64.wrap (z + 1), v', O', [p]⟩ (by kernel_rfl) (by simp only [List.nil_append, List.append_nil]; kernel_rfl) ⟨by simp only [IntKind.wrap_i64]; omega, hlt, by simp only; rw [hstep]; rfl, Nat.le_refl _, Grow.cast (by simp) rfl hg'⟩ (by simp only; omega) (entC entK entE)
    · obtain ⟨a, ha⟩ : ∃ a, pts[i - 1]? = some a := ⟨_, List.getElem?_eq_getElem (by omega)⟩
      have hhd : D.head? = some a := by
        have := dd_take ha []
        rw [Nat.sub_add_cancel (by omega), ← hD] at this
        rw [this]
        exact dd_head _ _
      refine W.df [10] 15 (z == 0) (by kernel_rfl) (by simp only [beq_eq_false_iff_ne]; omega) ?_
      refine W.ia [15] 2 b o n c .i64 i z hz tbOk (by kernel_rfl) hlt ?_
      refine W.lds [15] b (o + i * 2) (dpc p) tbOk (by kernel_rfl) (RA.rdn b o (i * 2) (dp_atq hp)) ?_
      refine W.ia [15] 2 b o n c .i64 (i - 1) (IntKind.i64.wrap (z - 1)) (by rw [IntKind.wrap_i64]; omega) tbOk (by kernel_rfl) (by omega) ?_
      refine W.lds [15] b (o + (i - 1) * 2) (dpc a) tbOk (by kernel_rfl) (RA.rdn b o ((i - 1) * 2) (dp_atq ha)) ?_
      refine W.nep [15] 35 p a (by kernel_rfl) (by kernel_rfl) (by kernel_rfl) ?_
      by_cases hpa : p = a
      · refine W.df [15] 26 (!decide (p = a)) (by kernel_rfl) (by rw [decide_eq_true hpa]; rfl) ?_
        exact close [26] _ _ ⟨i + 1, IntKind.i64.wrap (z + 1), v, O, D⟩ (by kernel_rfl) (by kernel_rfl) ⟨by simp only [IntKind.wrap_i64]; omega, hlt, by simp only; rw [hstep, ddR, if_pos (by rw [hhd, hpa])], by simp only; omega, hg⟩ (by simp only; omega) (entC entK entE)
      · refine W.dt [15] 26 (!decide (p = a)) (by kernel_rfl) (by rw [decide_eq_false hpa]; rfl) ?_
        refine W.ia [26] 2 b o n c .i64 i z hz tbOk (by kernel_rfl) hlt ?_
        refine W.lds [] b (o + i * 2) (dpc p) tbOk (by kernel_rfl) (RA.rdn b o (i * 2) (dp_atq hp)) ?_
        refine W.bs [] 1 (dpc p) tbOk (by kernel_rfl) (fun B => ?_)
        refine W.app [] O [] O [] 2 16 D.length 1 v (.slice (some ⟨B, 0, none⟩) 1 1) (D.reverse.flatMap dpc) (dpc p) tbOk (by kernel_rfl) (by simp) hg (reads_row B O 1 2 rfl 1) (dp_one _) (by omega) (by decide) (fun v' O' hg' => ?_)
        exact close [] _ _ ⟨i + 1, IntKind.i64.wrap (z + 1), v', O', p :: D⟩ (by kernel_rfl) (by simp only [List.nil_append, List.append_nil]; kernel_rfl) ⟨by simp only [IntKind.wrap_i64]; omega, hlt, by simp only; rw [hstep, ddR, if_neg (by rw [hhd]; exact fun e => hpa (Option.some.inj e).symm)], by simp only [List.length_cons]; omega, Grow.cast (rev_snoc D p).symm rfl hg'⟩ (by simp only; omega) (entC entK entE)
  obtain rfl : i = n := by omega
  rw [List.take_of_length_le (by omega)] at hD
  have hadj : AdjOk D := by rw [hD]; exact dd_fold_adj pts [] (fun i a b h => by simp at h)
  have hmem : ∀ p ∈ D, inD 2147483648 p := by rw [hD]; exact dd_mem pts [] hb (by simp)
  rw [← hD]
  clear hD
  have hlst : ∀ j x, D.reverse[j]? = some x → inD 2147483648 x := fun j x hx => hmem x (by obtain ⟨_, rfl⟩ := List.getElem?_eq_some_iff.1 hx; exact List.mem_reverse.1 (List.getElem_mem _))
  have hadjF : ∀ j x y, D.reverse[j]? = some x → D.reverse[j + 1]? = some y → x ≠ y := fun j x y hx hy => by
    have hj := (List.getElem?_eq_some_iff.1 hy).1
    simp only [List.length_reverse] at hj
    rw [List.getElem?_reverse (by omega)] at hx hy
    have := hadj (D.length - 1 - (j + 1)) y x hy (by rw [show D.length - 1 - (j + 1) + 1 = D.length - 1 - j by omega]; exact hx)
    exact fun e => this e.symm
  have hrl : D.reverse.length = D.length := List.length_reverse
  refine W.pubgs (O1 := O) (O2 := []) (List.append_nil _).symm hg rfl (fun a1 c1' h1 => ?_)
  subst h1
  refine W.df [] 10 (decide (z < (i : Int))) (by kernel_rfl) (decide_eq_false (by omega)) ?_
  refine W.lpo [10] [5, 6] (fun a : DSt => [(5, a.v), (6, .int .i64 a.z)]) (fun _ => []) (fun a => a.O) (fun _ => [RA a1 (D.reverse.flatMap dpc)]) (fun a => a.z = a.i ∧ a.i ≤ D.length ∧ (∀ x, D.reverse[a.i]? = some x → a.D = gR x (D.reverse.take a.i).reverse) ∧ (a.i = D.length → a.D = fR D) ∧ a.D.length ≤ a.i ∧ Grow 2 a.O a.v a.D.length (a.D.reverse.flatMap dpc)) (fun a => D.length - a.i) ⟨0, 0, .slice none 0 0, [], []⟩ (by kernel_rfl) (by kernel_rfl) ⟨rfl, Nat.zero_le _, fun _ _ => rfl, fun h => by simp only at h; rw [List.eq_nil_of_length_eq_zero h.symm]; rfl, Nat.le_refl _, Grow.nil 2⟩ (entC entK entE) ?_
  rintro ⟨k, y, v2, O2, G⟩ K2 ⟨hy, hk, hG, hGe, hGl, hg2⟩ close2
  simp only at hy hk hG hGe hGl hg2
  by_cases hlt : k < D.length
  · obtain ⟨x, hx⟩ : ∃ x, D.reverse[k]? = some x := ⟨_, List.getElem?_eq_getElem (by omega)⟩
    have hGx := hG x hx
    refine W.ra a1 rfl (dpc_ne' (by omega)) (fun ba oa e => ?_)
    subst e
    refine W.dt [] 37 (decide (y < (D.length : Int))) (by kernel_rfl) (decide_eq_true (by omega)) ?_
    have htk : (D.reverse.take (k + 1)).reverse = x :: (D.reverse.take k).reverse := by rw [take_snoc hx, List.reverse_append]; rfl
    have hlast : k + 1 = D.length → fR D = x :: gR x (D.reverse.take k).reverse := fun h => by
      have : D = x :: (D.reverse.take k).reverse := by rw [← htk, List.take_of_length_le (by omega), List.reverse_reverse]
      rw [this]
      simp only [fR]
      rw [← this]
    by_cases hk0 : 0 < k
    · obtain ⟨a, ha⟩ : ∃ a, D.reverse[k - 1]? = some a := ⟨_, List.getElem?_eq_getElem (by omega)⟩
      have hak : D.reverse[k - 1 + 1]? = some x := by rw [Nat.sub_add_cancel hk0]; exact hx
      have htk1 : (D.reverse.take k).reverse = a :: (D.reverse.take (k - 1)).reverse := by
        have := take_snoc ha
        rw [Nat.sub_add_cancel hk0] at this
        rw [this, List.reverse_append]; rfl
      refine W.dt [37] 42 (decide (y > 0)) (by kernel_rfl) (decide_eq_true (by omega)) ?_
      by_cases hk1 : k + 1 < D.length
      · obtain ⟨q, hq⟩ : ∃ q, D.reverse[k + 1]? = some q := ⟨_, List.getElem?_eq_getElem (by omega)⟩
        refine W.dt [42] 49 (decide (IntKind.i64.wrap (y + 1) < (D.length : Int))) (by kernel_rfl) (decide_eq_true (by rw [IntKind.wrap_i64]; omega)) ?_
        refine W.ia [49] 2 ba oa D.length c1' .i64 (k - 1) (IntKind.i64.wrap (y - 1)) (by rw [IntKind.wrap_i64]; omega) tbOk (by kernel_rfl) (by omega) ?_
        refine W.lds [49] ba (oa + (k - 1) * 2) (dpc a) tbOk (by kernel_rfl) (RA.rdn ba oa ((k - 1) * 2) (dp_atq ha)) ?_
        refine W.ia [49] 2 ba oa D.length c1' .i64 k y hy tbOk (by kernel_rfl) hlt ?_
        refine W.lds [49] ba (oa + k * 2) (dpc x) tbOk (by kernel_rfl) (RA.rdn ba oa (k * 2) (dp_atq hx)) ?_
        refine W.ia [49] 2 ba oa D.length c1' .i64 k y hy tbOk (by kernel_rfl) hlt ?_
        refine W.lds [49] ba (oa + k * 2) (dpc x) tbOk (by kernel_rfl) (RA.rdn ba oa (k * 2) (dp_atq hx)) ?_
        refine W.ia [49] 2 ba oa D.length c1' .i64 (k + 1) (IntKind.i64.wrap (y + 1)) (by rw [IntKind.wrap_i64]; omega) tbOk (by kernel_rfl) (by omega) ?_
        refine W.lds [49] ba (oa + (k + 1) * 2) (dpc q) tbOk (by kernel_rfl) (RA.rdn ba oa ((k + 1) * 2) (dp_atq hq)) ?_
        refine W.cl [49] (by kernel_rfl) (r_way a x (hlst _ _ ha) (hlst _ _ hx) (hadjF _ _ _ ha hak)) ?_
        rintro _ _ ⟨rfl, rfl⟩
        refine W.cl [49] (by kernel_rfl) (r_way x q (hlst _ _ hx) (hlst _ _ hq) (hadjF _ _ _ hx hq)) ?_
        rintro _ _ ⟨rfl, rfl⟩
        refine W.eqp [49] 35 (wayv a x) (wayv x q) (by kernel_rfl) (by kernel_rfl) (by kernel_rfl) ?_
        by_cases hw : wayv a x = wayv x q
        · refine W.dt [49] 71 (decide (wayv a x = wayv x q)) (by kernel_rfl) (decide_eq_true hw) ?_
          refine close2 [71] _ _ ⟨k + 1, IntKind.i64.wrap (y + 1), v2, O2, G⟩ (by kernel_rfl) (by kernel_rfl) ⟨by simp only [IntKind.wrap_i64]; omega, hlt, fun q' hq' => ?_, fun h => by simp only at h; omega, by simp only; omega, hg2⟩ (by simp only; omega) (entC entK entE)
          simp only at hq' ⊢
          rw [hq] at hq'
          injection hq' with hq'
          subst hq'
          rw [htk, htk1, hGx, htk1]
          simp only [gR, if_pos hw]
        · refine W.df [49] 71 (decide (wayv a x = wayv x q)) (by kernel_rfl) (decide_eq_false hw) ?_
          refine W.ia [71] 2 ba oa D.length c1' .i64 k y hy tbOk (by kernel_rfl) hlt ?_
          refine W.lds [] ba (oa + k * 2) (dpc x) tbOk (by kernel_rfl) (RA.rdn ba oa (k * 2) (dp_atq hx)) ?_
          refine W.bs [] 1 (dpc x) tbOk (by kernel_rfl) (fun B => ?_)
          refine W.app [] O2 [] O2 [] 2 16 G.length 1 v2 (.slice (some ⟨B, 0, none⟩) 1 1) (G.reverse.flatMap dpc) (dpc x) tbOk (by kernel_rfl) (by simp) hg2 (reads_row B O2 1 2 rfl 1) (dp_one _) (by omega) (by decide) (fun v' O' hg' => ?_)
          refine close2 [] _ _ ⟨k + 1, IntKind.i64.wrap (y + 1), v', O', x :: G⟩ (by kernel_rfl) (by simp only [List.nil_append, List.append_nil]; kernel_rfl) ⟨by simp only [IntKind.wrap_i64]; omega, hlt, fun q' hq' => ?_, fun h => by simp only at h; omega, by simp only [List.length_cons]; omega, Grow.cast (rev_snoc G x).symm rfl hg'⟩ (by simp only; omega) (entC entK entE)
          simp only at hq' ⊢
          rw [hq] at hq'
          injection hq' with hq'
          subst hq'
          rw [htk, htk1, hGx, htk1]
          simp only [gR, if_neg hw]
      · refine W.df [42] 49 (decide (IntKind.i64.wrap (y + 1) < (D.length : Int))) (by kernel_rfl) (decide_eq_false (by rw [IntKind.wrap_i64]; omega)) ?_
        refine W.ia [71, 49] 2 ba oa D.length c1' .i64 k y hy tbOk (by kernel_rfl) hlt ?_
        refine W.lds [] ba (oa + k * 2) (dpc x) tbOk (by kernel_rfl) (RA.rdn ba oa (k * 2) (dp_atq hx)) ?_
        refine W.bs [] 1 (dpc x) tbOk (by kernel_rfl) (fun B => ?_)
        refine W.app [] O2 [] O2 [] 2 16 G.length 1 v2 (.slice (some ⟨B, 0, none⟩) 1 1) (G.reverse.flatMap dpc) (dpc x) tbOk (by kernel_rfl) (by simp) hg2 (reads_row B O2 1 2 rfl 1) (dp_one _) (by omega) (by decide) (fun v' O' hg' => ?_)
        exact close2 [] _ _ ⟨k + 1, IntKind.i64.wrap (y + 1), v', O', x :: G⟩ (by kernel_rfl) (by simp only [List.nil_append, List.append_nil]; kernel_rfl) ⟨by simp only [IntKind.wrap_i64]; omega, hlt, fun q' hq' => by have := (List.getElem?_eq_some_iff.1 hq').1; simp only [List.length_reverse] at this; omega, fun h => by simp only at h ⊢; rw [hlast h, hGx], by simp only [List.length_cons]; omega, Grow.cast (rev_snoc G x).symm rfl hg'⟩ (by simp only; omega) (entC entK entE)
    · obtain rfl : k = 0 := by omega
      refine W.df [37] 42 (decide (y > 0)) (by kernel_rfl) (decide_eq_false (by omega)) ?_
      refine W.ia [71, 49, 42] 2 ba oa D.length c1' .i64 0 y hy tbOk (by kernel_rfl) hlt ?_
      refine W.lds [] ba (oa + 0 * 2) (dpc x) tbOk (by kernel_rfl) (RA.rdn ba oa (0 * 2) (dp_atq hx)) ?_
      refine W.bs [] 1 (dpc x) tbOk (by kernel_rfl) (fun B => ?_)
      refine W.app [] O2 [] O2 [] 2 16 G.length 1 v2 (.slice (some ⟨B, 0, none⟩) 1 1) (G.reverse.flatMap dpc) (dpc x) tbOk (by kernel_rfl) (by simp) hg2 (reads_row B O2 1 2 rfl 1) (dp_one _) (by omega) (by decide) (fun v' O' hg' => ?_)
      refine close2 [] _ _ ⟨0 + 1, IntKind.i64.wrap (y + 1), v', O', x :: G⟩ (by kernel_rfl) (by simp only [List.nil_append, List.append_nil]; kernel_rfl) ⟨by simp only [IntKind.wrap_i64]; omega, hlt, fun q' hq' => ?_, fun h => by simp only at h ⊢; rw [hlast h, hGx], by simp only [List.length_cons]; omega, Grow.cast (rev_snoc G x).symm rfl hg'⟩ (by simp only; omega) (entC entK entE)
      simp only at hq' ⊢
      rw [htk, hGx]
      rfl
  · have hkd : k = D.length := by omega
    refine W.pubgs (O1 := O2) (O2 := []) (List.append_nil _).symm hg2 rfl (fun a2 c2' h2 => ?_)
    subst h2
    refine W.df [] 37 (decide (y < (D.length : Int))) (by kernel_rfl) (decide_eq_false (by omega)) ?_
    rw [← hGe hkd]
    exact W.r [37] (.slice a2 G.length c2') (by kernel_rfl) ⟨a2, c2', rfl, rfl⟩ (entC entK entE)
-->rc
end
end Go.Proofs.YtaafmafdnnjmdaaGreat
