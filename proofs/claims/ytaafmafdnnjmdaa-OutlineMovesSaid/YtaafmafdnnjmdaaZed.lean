/- The whole numbers of zed: contracts. The whole numbers of the reference: contracts. Texts as whole numbers: both Parses. Texts as whole numbers: the reference's Parse; Small on both sides. Small on both sides; Bezout. -/
import Derived.Test.YtaafmafdnnjmdaaPn
import Derived.Test.YtaafmafdnnjmdaaMaths
import Derived.Test.YtaafmafdnnjmdaaRefX
import Derived.IntWalk
set_option linter.unusedSimpArgs false
set_option linter.unusedVariables false
namespace Go.Proofs.Ytaafmafdnnjmdaa
open Go.RowKit Go.IntWalk

/-- Which is greater. -/
def cmpZ (x y : Int) : Int := if x < y then -1 else if x = y then 0 else 1
theorem cmpN_abs_p {x y : Int} (hx : 0 ≤ x) (hy : 0 ≤ y) : cmpN x.natAbs y.natAbs = cmpZ x y := by
  unfold cmpN cmpZ
  have e1 : x.natAbs < y.natAbs ↔ x < y := by omega
  have e2 : x.natAbs = y.natAbs ↔ x = y := by omega
  simp only [e1, e2]
theorem cmpN_abs_n {x y : Int} (hx : x < 0) (hy : y < 0) : cmpN y.natAbs x.natAbs = cmpZ x y := by
  unfold cmpN cmpZ
  have e1 : y.natAbs < x.natAbs ↔ x < y := by omega
  have e2 : y.natAbs = x.natAbs ↔ x = y := by omega
  simp only [e1, e2]
theorem cmpZ_nat (x y : Nat) : cmpN x y = cmpZ x y := by
  have := cmpN_abs_p (x := (x : Int)) (y := (y : Int)) (by omega) (by omega)
  simpa using this
theorem bl_pos (x : Nat) : (0 < bl x) ↔ 0 < x := by
  have := bl_le x 0
  omega
theorem bl_zero (x : Nat) : bl x = 0 ↔ x = 0 := by
  have := bl_pos x
  omega

section
variable {fin : VS → List Fact → Prop} {Γ : List Fact} {L M : Nat}

/-- What follows from what is known. -/
theorem W.know {T : Tb} {P : Program} {c : Cfg} (φ : Prop) (hm : midOps c.k = false) (h : ∀ I w, DataOK T I w → Holds Γ I w → φ) (hk : φ → W T P fin c Γ) : W T P fin c Γ :=
  W.elim (α := Unit) (fun _ => φ) (fun _ => []) hm (fun I w hd hh => ⟨(), h I w hd hh, Holds.nil _ _⟩) (fun _ hp => hk hp)

theorem PCalls.info {T : Tb} {P : Program} {f : FuncId} {args : List Value} {post : Value → List Fact → Prop} (φ : Value → List Fact → Prop) (h : PCalls T P f args Γ post) (hi : ∀ v Δ, post v Δ → ∀ I w, Holds Δ I w → φ v Δ) : PCalls T P f args Γ (fun v Δ => post v Δ ∧ φ v Δ) :=
  ⟨h.1, fun I w hd hh => (h.2 I w hd hh).mono fun _ _ ⟨v, Δ, h1, h2, h3, h4⟩ => ⟨v, Δ, h1, ⟨h2, hi v Δ h2 _ _ h4⟩, h3, h4⟩⟩
theorem PCalls.post {T : Tb} {P : Program} {f : FuncId} {args : List Value} {post post' : Value → List Fact → Prop} (h : PCalls T P f args Γ post) (hp : ∀ v Δ, post v Δ → post' v Δ) : PCalls T P f args Γ post' := h.weak (fun _ _ _ hh => hh) hp

theorem W.kz {P : Program} {c : Cfg} (s : Sl) (b : Bool) {x : Int} [h : Has (ZF s b) (L, x) Γ] (hm : midOps c.k = false) (hk : b = decide (x < 0) → W tb P fin c Γ) : W tb P fin c Γ :=
  W.know _ hm (fun _ _ _ hh => (h.p hh).2) hk
/-- Its distance, as a number of nat. -/
theorem W.zn {P : Program} {c : Cfg} (s : Sl) (b : Bool) {x : Int} [h : Has (ZF s b) (L, x) Γ] (hm : midOps c.k = false) (hk : b = decide (x < 0) → W tb P fin c (NF s (L, x.natAbs) :: Γ)) : W tb P fin c Γ :=
  W.elim (α := Unit) (fun _ => b = decide (x < 0)) (fun _ => [NF s (L, x.natAbs)]) hm (fun I w _ hh => ⟨(), (h.p hh).2, holds1 (h.p hh).1⟩) (fun _ hp => hk hp)

theorem entNZ {s : Sl} {d : Bool} {L' x : Nat} {z : Int} [h : Has (NF s) (L, x) Γ] (hL : L ≤ L') (hz : z.natAbs = x) (hd : d = decide (z < 0)) : ∀ (I : Blk) (w : World), DataOK tb I w → Holds Γ I w → Holds [ZF s d (L', z)] I w := fun I w _ hh => by
  subst hz
  obtain ⟨h1, h2, h3⟩ := h.p hh
  exact holds1 ⟨⟨h1, h2, Nat.le_trans h3 hL⟩, hd⟩
theorem entZN {s : Sl} {d : Bool} {L' x : Nat} {z : Int} [h : Has (ZF s d) (L, z) Γ] (hL : L ≤ L') (hz : z.natAbs = x) : ∀ (I : Blk) (w : World), DataOK tb I w → Holds Γ I w → Holds [NF s (L', x)] I w := fun I w _ hh => by
  subst hz
  obtain ⟨⟨h1, h2, h3⟩, _⟩ := h.p hh
  exact holds1 ⟨h1, h2, Nat.le_trans h3 hL⟩
theorem entAll {Δ Δ' : List Fact} (h : ∀ (I : Blk) (w : World), DataOK tb I w → Holds Γ I w → Holds Δ I w) (h' : ∀ (I : Blk) (w : World), DataOK tb I w → Holds Γ I w → Holds Δ' I w) : ∀ (I : Blk) (w : World), DataOK tb I w → Holds Γ I w → Holds (Δ ++ Δ') I w := fun I w hd hh => (h I w hd hh).append (h' I w hd hh)

theorem p_of' (z : Int) (x : Nat) (hz : z = x) (hx : x < 18446744073709551616) : PCalls tb Try.prog 45 [.int .u64 z] Γ (NPost 2 x) := by
  subst hz
  exact p_of x hx

theorem p_made' (s : Sl) (b : Bool) {x : Nat} [Has (NF s) (L, x) Γ] (hL : L ≤ 1000000000000 := by omega) :
    PCalls tb Try.prog 44 [mv s, .bool b] Γ (fun v Δ => ∃ (u : Sl) (d : Bool), v = zv u d ∧ d = (b && decide (0 < x)) ∧ Δ = [ZF u d (L, bif b then -(x : Int) else x)]) := by
  refine PCalls.of_W tbOk Try.func44 rfl (by kernel_rfl) ?_
  cases b with
  | true =>
    refine W.cl [7] (by kernel_rfl) (p_bits s) ?_
    rintro _ _ ⟨rfl, rfl⟩
    have hb := bl_pos x
    have e : decide (((bl x : Nat) : Int) > 0) = decide (0 < x) := by rw [decide_eq_decide]; omega
    refine W.r [7] (zv s (decide (((bl x : Nat) : Int) > 0))) (by kernel_rfl) ⟨s, _, rfl, by rw [e]; rfl, rfl⟩ (entNZ (Nat.le_refl _) (by simp) ?_)
    simp only [cond_true]
    rw [decide_eq_decide]
    omega
  | false =>
    refine W.r [7] (zv s false) (by kernel_rfl) ⟨s, _, rfl, rfl, rfl⟩ (entNZ (Nat.le_refl _) (by simp) ?_)
    simp only [cond_false]
    rw [eq_comm, decide_eq_false_iff_not]
    omega

theorem p_made (s : Sl) (b : Bool) {x : Nat} [Has (NF s) (L, x) Γ] (hL : L ≤ 1000000000000 := by omega) :
    PCalls tb Try.prog 44 [mv s, .bool b] Γ (ZPost L (bif b then -(x : Int) else x)) :=
  (p_made' s b hL).post fun _ _ ⟨u, d, h1, _, h2⟩ => ⟨u, d, h1, h2⟩

theorem p_zbig (s : Sl) {x : Nat} [Has (NF s) (L, x) Γ] (hL : L ≤ 1000000000000 := by omega) :
    PCalls tb Try.prog 110 [mv s] Γ (ZPost L (x : Int)) := by
  refine PCalls.of_W tbOk Try.func110 rfl (by kernel_rfl) ?_
  refine W.cl [] (by kernel_rfl) (p_made s false) ?_
  rintro _ _ ⟨u, d, rfl, rfl⟩
  exact W.r [] (zv u d) (by kernel_rfl) ⟨u, d, rfl, rfl⟩ (entZ (Nat.le_refl _) rfl)

theorem p_zof (n : Int) (h1 : -9223372036854775808 ≤ n) (h2 : n < 9223372036854775808) : PCalls tb Try.prog 17 [.int .i64 n] Γ (ZPost 2 n) := by
  refine PCalls.of_W tbOk Try.func17 rfl (by kernel_rfl) ?_
  refine W.d [] 4 (decide (n < 0)) (by kernel_rfl) (fun hn => ?_) (fun hn => ?_)
  · have hn := of_decide_eq_true hn
    have e : IntKind.u64.wrap (IntKind.u64.wrap (IntKind.i64.wrap (0 - IntKind.i64.wrap (n + 1))) + 1) = ((-n).toNat : Int) := by
      rw [i64_in (n + 1) (by omega), i64_in (0 - (n + 1)) (by omega), u64_in (0 - (n + 1)) (by omega), u64_in _ (by omega)]
      omega
    refine W.cl [4] (by kernel_rfl) (p_of' (IntKind.u64.wrap (IntKind.u64.wrap (IntKind.i64.wrap (0 - IntKind.i64.wrap (n + 1))) + 1)) (-n).toNat e (by omega)) ?_
    rintro _ _ ⟨u, rfl, rfl⟩
    refine W.cl [] (by kernel_rfl) (p_made u true) ?_
    rintro _ _ ⟨t, d, rfl, rfl⟩
    exact W.r [] (zv t d) (by kernel_rfl) ⟨t, d, rfl, rfl⟩ (entZ (Nat.le_refl _) (by simp; omega))
  · have hn := of_decide_eq_false hn
    have e : IntKind.u64.wrap n = (n.toNat : Int) := by rw [u64_in _ (by omega)]; omega
    refine W.cl [4] (by kernel_rfl) (p_of' (IntKind.u64.wrap n) n.toNat e (by omega)) ?_
    rintro _ _ ⟨u, rfl, rfl⟩
    refine W.cl [] (by kernel_rfl) (p_made u false) ?_
    rintro _ _ ⟨t, d, rfl, rfl⟩
    exact W.r [] (zv t d) (by kernel_rfl) ⟨t, d, rfl, rfl⟩ (entZ (Nat.le_refl _) (by simp; omega))

theorem p_zabs (s : Sl) (b : Bool) {x : Int} [Has (ZF s b) (L, x) Γ] : PCalls tb Try.prog 108 [zv s b] Γ (fun v Δ => v = mv s ∧ Δ = [NF s (L, x.natAbs)]) := by
  refine PCalls.of_W tbOk Try.func108 rfl (by kernel_rfl) ?_
  exact W.r [] (mv s) (by kernel_rfl) ⟨rfl, rfl⟩ (entZN (d := b) (Nat.le_refl _) rfl)

theorem p_zsign (s : Sl) (b : Bool) {x : Int} [Has (ZF s b) (L, x) Γ] (hL : L ≤ 1000000000000 := by omega) : PCalls tb Try.prog 85 [zv s b] Γ (IsV (.int .i64 x.sign)) := by
  refine PCalls.of_W tbOk Try.func85 rfl (by kernel_rfl) ?_
  refine W.zn s b rfl ?_
  rintro rfl
  refine W.d [] 3 (decide (x < 0)) (by kernel_rfl) (fun hn => ?_) (fun hn => ?_)
  · have hn := of_decide_eq_true hn
    exact W.r [3] (.int .i64 (-1)) (by kernel_rfl) ⟨by rw [Int.sign_eq_neg_one_of_neg hn], rfl⟩ ent0
  · have hn := of_decide_eq_false hn
    refine W.cl [3] (by kernel_rfl) (p_bits s) ?_
    rintro _ _ ⟨rfl, rfl⟩
    have hz := bl_zero x.natAbs
    refine W.d [] 6 (((bl x.natAbs : Nat) : Int) == 0) (by kernel_rfl) (fun h0 => ?_) (fun h0 => ?_)
    · have h0 := eq_of_beq h0
      have : x = 0 := by omega
      exact W.r [6] (.int .i64 0) (by kernel_rfl) ⟨by rw [this]; rfl, rfl⟩ ent0
    · have h0 := ne_of_beq_false h0
      exact W.r [6] (.int .i64 1) (by kernel_rfl) ⟨by rw [Int.sign_eq_one_of_pos (by omega)], rfl⟩ ent0

theorem p_zcmp (s : Sl) (b : Bool) (t : Sl) (c : Bool) {x y : Int} [Has (ZF s b) (L, x) Γ] [Has (ZF t c) (M, y) Γ] (hL : L ≤ 1000000000000 := by omega) (hM : M ≤ 1000000000000 := by omega) :
    PCalls tb Try.prog 22 [zv s b, zv t c] Γ (IsV (.int .i64 (cmpZ x y))) := by
  refine PCalls.of_W tbOk Try.func22 rfl (by kernel_rfl) ?_
  refine W.zn s b rfl ?_
  rintro rfl
  refine W.zn t c rfl ?_
  rintro rfl
  by_cases hx : x < 0 <;> by_cases hy : y < 0
  · refine W.df [] 5 (!(decide (x < 0) == decide (y < 0))) (by kernel_rfl) (by simp [hx, hy]) ?_
    refine W.dt [5] 13 (decide (x < 0)) (by kernel_rfl) (by simp [hx]) ?_
    refine W.cl [13] (by kernel_rfl) (p_cmp t s) ?_
    rintro _ _ ⟨rfl, rfl⟩
    exact W.r [] (.int .i64 (cmpN y.natAbs x.natAbs)) (by kernel_rfl) ⟨by rw [cmpN_abs_n hx hy], rfl⟩ ent0
  · refine W.dt [] 5 (!(decide (x < 0) == decide (y < 0))) (by kernel_rfl) (by simp [hx, hy]) ?_
    refine W.dt [5] 12 (decide (x < 0)) (by kernel_rfl) (by simp [hx]) ?_
    exact W.r [12] (.int .i64 (-1)) (by kernel_rfl) ⟨by unfold cmpZ; rw [if_pos (by omega)], rfl⟩ ent0
  · refine W.dt [] 5 (!(decide (x < 0) == decide (y < 0))) (by kernel_rfl) (by simp [hx, hy]) ?_
    refine W.df [5] 12 (decide (x < 0)) (by kernel_rfl) (by simp [hx]) ?_
    exact W.r [12] (.int .i64 1) (by kernel_rfl) ⟨by unfold cmpZ; rw [if_neg (by omega), if_neg (by omega)], rfl⟩ ent0
  · refine W.df [] 5 (!(decide (x < 0) == decide (y < 0))) (by kernel_rfl) (by simp [hx, hy]) ?_
    refine W.df [5] 13 (decide (x < 0)) (by kernel_rfl) (by simp [hx]) ?_
    refine W.cl [13] (by kernel_rfl) (p_cmp s t) ?_
    rintro _ _ ⟨rfl, rfl⟩
    exact W.r [] (.int .i64 (cmpN x.natAbs y.natAbs)) (by kernel_rfl) ⟨by rw [cmpN_abs_p (by omega) (by omega)], rfl⟩ ent0

theorem p_zneg (s : Sl) (b : Bool) {x : Int} [Has (ZF s b) (L, x) Γ] (hL : L ≤ 1000000000000 := by omega) : PCalls tb Try.prog 73 [zv s b] Γ (ZPost L (-x)) := by
  refine PCalls.of_W tbOk Try.func73 rfl (by kernel_rfl) ?_
  refine W.zn s b rfl ?_
  rintro rfl
  refine W.cl [] (by kernel_rfl) (p_made s (!decide (x < 0))) ?_
  rintro _ _ ⟨u, d, rfl, rfl⟩
  refine W.r [] (zv u d) (by kernel_rfl) ⟨u, d, rfl, rfl⟩ (entZ (Nat.le_refl _) ?_)
  by_cases hx : x < 0 <;> simp [hx] <;> omega

theorem p_zadd (s : Sl) (b : Bool) (t : Sl) (c : Bool) {x y : Int} [Has (ZF s b) (L, x) Γ] [Has (ZF t c) (M, y) Γ] (hL : L ≤ 1000000000 := by omega) (hM : M ≤ 1000000000 := by omega) :
    PCalls tb Try.prog 84 [zv s b, zv t c] Γ (ZPost (max L M + 1) (x + y)) := by
  refine PCalls.of_W tbOk Try.func84 rfl (by kernel_rfl) ?_
  refine W.zn s b rfl ?_
  rintro rfl
  refine W.zn t c rfl ?_
  rintro rfl
  refine W.d [] 13 (decide (x < 0) == decide (y < 0)) (by kernel_rfl) (fun hb => ?_) (fun hb => ?_)
  · have hb := eq_of_beq hb
    rw [decide_eq_decide] at hb
    refine W.cl [13] (by kernel_rfl) (p_add s t) ?_
    rintro _ _ ⟨u, rfl, rfl⟩
    refine W.cl [] (by kernel_rfl) (p_made u (decide (x < 0))) ?_
    rintro _ _ ⟨u2, d2, rfl, rfl⟩
    refine W.r [] (zv u2 d2) (by kernel_rfl) ⟨u2, d2, rfl, rfl⟩ (entZ (Nat.le_refl _) ?_)
    by_cases hx : x < 0 <;> simp [hx] <;> omega
  · have hb := ne_of_beq_false hb
    rw [ne_eq, decide_eq_decide] at hb
    rcases Nat.lt_or_ge x.natAbs y.natAbs with hxy | hxy
    · refine W.cl [13] (by kernel_rfl) (p_sub_lt s t hxy) ?_
      rintro _ _ ⟨rfl, rfl⟩
      refine W.cl [31] (by kernel_rfl) (p_sub_ge t s (Nat.le_of_lt hxy)) ?_
      rintro _ _ ⟨u, rfl, rfl⟩
      refine W.cl [] (by kernel_rfl) (p_made u (decide (y < 0))) ?_
      rintro _ _ ⟨u2, d2, rfl, rfl⟩
      refine W.r [] (zv u2 d2) (by kernel_rfl) ⟨u2, d2, rfl, rfl⟩ (entZ (by omega) ?_)
      by_cases hx : x < 0 <;> by_cases hy : y < 0 <;> simp [hy] <;> omega
    · refine W.cl [13] (by kernel_rfl) (p_sub_ge s t hxy) ?_
      rintro _ _ ⟨u, rfl, rfl⟩
      refine W.cl [31] (by kernel_rfl) (p_made u (decide (x < 0))) ?_
      rintro _ _ ⟨u2, d2, rfl, rfl⟩
      refine W.r [] (zv u2 d2) (by kernel_rfl) ⟨u2, d2, rfl, rfl⟩ (entZ (by omega) ?_)
      by_cases hx : x < 0 <;> by_cases hy : y < 0 <;> simp [hx] <;> omega

theorem p_zsub (s : Sl) (b : Bool) (t : Sl) (c : Bool) {x y : Int} [Has (ZF s b) (L, x) Γ] [Has (ZF t c) (M, y) Γ] (hL : L ≤ 1000000000 := by omega) (hM : M ≤ 1000000000 := by omega) :
    PCalls tb Try.prog 91 [zv s b, zv t c] Γ (ZPost (max L M + 1) (x - y)) := by
  refine PCalls.of_W tbOk Try.func91 rfl (by kernel_rfl) ?_
  refine W.cl [] (by kernel_rfl) (p_zneg t c) ?_
  rintro _ _ ⟨u, d, rfl, rfl⟩
  refine W.cl [] (by kernel_rfl) (p_zadd s b u d) ?_
  rintro _ _ ⟨u2, d2, rfl, rfl⟩
  exact W.r [] (zv u2 d2) (by kernel_rfl) ⟨u2, d2, rfl, rfl⟩ (entZ (Nat.le_refl _) (by omega))

theorem p_zmul (s : Sl) (b : Bool) (t : Sl) (c : Bool) {x y : Int} [Has (ZF s b) (L, x) Γ] [Has (ZF t c) (M, y) Γ] (hL : L ≤ 1000000000 := by omega) (hM : M ≤ 1000000000 := by omega) :
    PCalls tb Try.prog 70 [zv s b, zv t c] Γ (ZPost (L + M) (x * y)) := by
  refine PCalls.of_W tbOk Try.func70 rfl (by kernel_rfl) ?_
  refine W.zn s b rfl ?_
  rintro rfl
  refine W.zn t c rfl ?_
  rintro rfl
  refine W.cl [] (by kernel_rfl) (p_mul s t) ?_
  rintro _ _ ⟨u, rfl, rfl⟩
  refine W.cl [] (by kernel_rfl) (p_made u (!(decide (x < 0) == decide (y < 0)))) ?_
  rintro _ _ ⟨u2, d2, rfl, rfl⟩
  refine W.r [] (zv u2 d2) (by kernel_rfl) ⟨u2, d2, rfl, rfl⟩ (entZ (Nat.le_refl _) ?_)
  rw [Int.natCast_mul]
  by_cases hx : x < 0 <;> by_cases hy : y < 0 <;> simp only [hx, hy, decide_true, decide_false, beq_self_eq_true, Bool.not_true, cond_false, cond_true]
  · rw [show ((x.natAbs : Nat) : Int) = -x by omega, show ((y.natAbs : Nat) : Int) = -y by omega, Int.neg_mul_neg]
  · rw [show ((x.natAbs : Nat) : Int) = -x by omega, show ((y.natAbs : Nat) : Int) = y by omega]
    simp [Int.neg_mul]
  · rw [show ((x.natAbs : Nat) : Int) = x by omega, show ((y.natAbs : Nat) : Int) = -y by omega]
    simp [Int.mul_neg]
  · rw [show ((x.natAbs : Nat) : Int) = x by omega, show ((y.natAbs : Nat) : Int) = y by omega]

/-- The quotient, rounded down, and the rest. -/
theorem p_zfloor (s : Sl) (b : Bool) (t : Sl) (c : Bool) {x y : Int} [Has (ZF s b) (L, x) Γ] [Has (ZF t c) (M, y) Γ] (hy : y ≠ 0) (hL : L ≤ 1000000000 := by omega) (hM : M ≤ 1000000000 := by omega) :
    PCalls tb Try.prog 90 [zv s b, zv t c] Γ (fun v Δ => ∃ (u : Sl) (d : Bool) (u' : Sl) (d' : Bool), v = .tuple #[zv u d, zv u' d', .int .i64 0] ∧ Δ = [ZF u d (max L 2 + 1, x / y), ZF u' d' (max L M + 1, x % y)]) := by
  refine PCalls.of_W tbOk Try.func90 rfl (by kernel_rfl) ?_
  refine W.zn s b rfl ?_
  rintro rfl
  refine W.zn t c rfl ?_
  rintro rfl
  refine W.cl [] (by kernel_rfl) (p_div s t (by omega)) ?_
  rintro _ _ ⟨q, r, rfl, rfl⟩
  refine W.cl [22] (by kernel_rfl) (p_made q (!(decide (x < 0) == decide (y < 0)))) ?_
  rintro _ _ ⟨u2, d2, rfl, rfl⟩
  refine W.cl [] (by kernel_rfl) (p_made' r (decide (x < 0))) ?_
  rintro _ _ ⟨u3, d3, rfl, hd3, rfl⟩
  by_cases hx : x < 0
  · by_cases hr : x.natAbs % y.natAbs = 0
    · obtain ⟨e1, e2⟩ := floor_neg_zero hx hy hr
      refine W.df [] 38 d3 (by kernel_rfl) (by rw [hd3]; simp [hx, hr]) ?_
      refine W.r [38] (.tuple #[zv u2 d2, zv u3 d3, .int .i64 0]) (by kernel_rfl) ⟨u2, d2, u3, d3, rfl, rfl⟩ (entAll (entZ (by omega) ?_) (entZ (by omega) ?_))
      · rw [e1]
        by_cases hyn : y < 0 <;> simp [hx, hyn]
      · rw [e2]; simp [hr]
    · obtain ⟨e1, e2⟩ := floor_neg_pos hx hy hr
      refine W.dt [] 38 d3 (by kernel_rfl) (by rw [hd3]; simp [hx] <;> omega) ?_
      refine W.cl [38] (by kernel_rfl) (p_zbig t) ?_
      rintro _ _ ⟨u4, d4, rfl, rfl⟩
      refine W.cl [] (by kernel_rfl) (p_zadd u3 d3 u4 d4) ?_
      rintro _ _ ⟨u5, d5, rfl, rfl⟩
      by_cases hyn : y < 0
      · refine W.dt [] 45 (decide (y < 0)) (by kernel_rfl) (by simp [hyn]) ?_
        refine W.cl [45] (by kernel_rfl) (p_zof 1 (by omega) (by omega)) ?_
        rintro _ _ ⟨u6, d6, rfl, rfl⟩
        refine W.cl [] (by kernel_rfl) (p_zadd u2 d2 u6 d6) ?_
        rintro _ _ ⟨u7, d7, rfl, rfl⟩
        refine W.r [] (.tuple #[zv u7 d7, zv u5 d5, .int .i64 0]) (by kernel_rfl) ⟨u7, d7, u5, d5, rfl, rfl⟩ (entAll (entZ (by omega) ?_) (entZ (by omega) ?_))
        · rw [e1]; simp [hx, hyn]
        · rw [e2]; simp [hx]; omega
      · refine W.df [] 45 (decide (y < 0)) (by kernel_rfl) (by simp [hyn]) ?_
        refine W.cl [45] (by kernel_rfl) (p_zof 1 (by omega) (by omega)) ?_
        rintro _ _ ⟨u6, d6, rfl, rfl⟩
        refine W.cl [] (by kernel_rfl) (p_zsub u2 d2 u6 d6) ?_
        rintro _ _ ⟨u7, d7, rfl, rfl⟩
        refine W.r [] (.tuple #[zv u7 d7, zv u5 d5, .int .i64 0]) (by kernel_rfl) ⟨u7, d7, u5, d5, rfl, rfl⟩ (entAll (entZ (by omega) ?_) (entZ (by omega) ?_))
        · rw [e1]; simp [hx, hyn]
        · rw [e2]; simp [hx]; omega
  · obtain ⟨e1, e2⟩ := floor_pos_div (a := x) (b := y) (by omega) hy
    refine W.df [] 38 d3 (by kernel_rfl) (by rw [hd3]; simp [hx] <;> omega) ?_
    refine W.r [38] (.tuple #[zv u2 d2, zv u3 d3, .int .i64 0]) (by kernel_rfl) ⟨u2, d2, u3, d3, rfl, rfl⟩ (entAll (entZ (by omega) ?_) (entZ (by omega) ?_))
    · rw [e1]
      by_cases hyn : y < 0 <;> simp [hx, hyn]
    · rw [e2]; simp [hx]

end

end Go.Proofs.Ytaafmafdnnjmdaa

namespace Go.Proofs.Ytaafmafdnnjmdaa
open Go.RowKit Go.IntWalk

section
variable {fin : VS → List Fact → Prop} {Γ : List Fact} {L M : Nat}

theorem entZnil {L' : Nat} : ∀ (I : Blk) (w : World), DataOK tb I w → Holds Γ I w → Holds [ZF ⟨none, 0, 0⟩ false (L', 0)] I w := fun I w _ _ => by
  obtain ⟨h1, h2, h3⟩ := NFnil I w
  exact holds1 ⟨⟨h1, h2, Nat.le_trans h3 (Nat.zero_le _)⟩, rfl⟩

theorem sign_lt {x : Int} : x.sign < 0 ↔ x < 0 := by
  rcases Int.lt_trichotomy x 0 with h | h | h
  · rw [Int.sign_eq_neg_one_of_neg h]; omega
  · subst h; simp
  · rw [Int.sign_eq_one_of_pos h]; omega
theorem sign_zero {x : Int} : x.sign = 0 ↔ x = 0 := Int.sign_eq_zero_iff_zero
end

end Go.Proofs.Ytaafmafdnnjmdaa

namespace Go.Proofs.Ytaafmafdnnjmdaa
open Go.RowKit Go.IntWalk

instance digsDec (l : List Nat) : Decidable (Digs l) := inferInstanceAs (Decidable (∀ d ∈ l, 48 ≤ d ∧ d ≤ 57))
section
variable {fin : VS → List Fact → Prop} {Γ : List Fact} {L M : Nat}

end

end Go.Proofs.Ytaafmafdnnjmdaa

namespace Go.Proofs.Ytaafmafdnnjmdaa
open Go.RowKit Go.IntWalk

section
variable {fin : VS → List Fact → Prop} {Γ : List Fact} {L M : Nat}

end

end Go.Proofs.Ytaafmafdnnjmdaa

namespace Go.Proofs.Ytaafmafdnnjmdaa
open Go.RowKit Go.IntWalk

section
variable {fin : VS → List Fact → Prop} {Γ : List Fact} {L M : Nat}

/-- Does an int hold it? -/
def small (x : Int) : Bool := decide (-9223372036854775808 ≤ x) && decide (x ≤ 9223372036854775807)

theorem p_zsmall (s : Sl) (b : Bool) {x : Int} [Has (ZF s b) (L, x) Γ] (hL : L ≤ 1000000000000 := by omega) : PCalls tb Try.prog 47 [zv s b] Γ (IsV (.tuple #[.int .i64 (if small x = true then x else 0), .bool (small x)])) := by
  refine PCalls.of_W tbOk Try.func47 rfl (by kernel_rfl) ?_
  refine W.zn s b rfl ?_
  rintro rfl
  by_cases hw : 18446744073709551616 ≤ x.natAbs
  · have hs : small x = false := by unfold small; simp only [Bool.and_eq_false_iff, decide_eq_false_iff_not]; omega
    refine W.cl [] (by kernel_rfl) (p_word_big s hw) ?_
    rintro _ _ ⟨rfl, rfl⟩
    exact W.r [12] (.tuple #[.int .i64 0, .bool false]) (by kernel_rfl) ⟨by rw [hs]; rfl, rfl⟩ ent0
  · refine W.cl [] (by kernel_rfl) (p_word_small s (by omega)) ?_
    rintro _ _ ⟨rfl, rfl⟩
    by_cases hx : x < 0
    · refine W.dt [12] 18 (decide (x < 0)) (by kernel_rfl) (decide_eq_true hx) ?_
      by_cases hb : x.natAbs ≤ 9223372036854775808
      · have hs : small x = true := by unfold small; simp only [Bool.and_eq_true, decide_eq_true_eq]; omega
        refine W.dt [18] 15 (decide (((x.natAbs : Nat) : Int) ≤ 9223372036854775808)) (by kernel_rfl) (by rw [decide_eq_true_iff]; omega) ?_
        refine W.r [15] (.tuple #[.int .i64 (IntKind.i64.wrap (IntKind.i64.wrap (0 - IntKind.i64.wrap (IntKind.u64.wrap (((x.natAbs : Nat) : Int) - 1))) - 1)), .bool true]) (by kernel_rfl) ⟨?_, rfl⟩ ent0
        rw [hs, if_pos rfl, u64_in _ (by omega), i64_in (((x.natAbs : Nat) : Int) - 1) (by omega), i64_in (0 - (((x.natAbs : Nat) : Int) - 1)) (by omega), i64_in _ (by omega)]
        rw [show (0 : Int) - (((x.natAbs : Nat) : Int) - 1) - 1 = x by omega]
      · have hs : small x = false := by unfold small; simp only [Bool.and_eq_false_iff, decide_eq_false_iff_not]; omega
        refine W.df [18] 15 (decide (((x.natAbs : Nat) : Int) ≤ 9223372036854775808)) (by kernel_rfl) (by rw [decide_eq_false_iff_not]; omega) ?_
        refine W.df [15] 31 (!decide (x < 0)) (by kernel_rfl) (by simp [hx]) ?_
        exact W.r [27, 31] (.tuple #[.int .i64 0, .bool false]) (by kernel_rfl) ⟨by rw [hs]; rfl, rfl⟩ ent0
    · refine W.df [12] 18 (decide (x < 0)) (by kernel_rfl) (decide_eq_false hx) ?_
      refine W.dt [15, 18] 31 (!decide (x < 0)) (by kernel_rfl) (by simp [hx]) ?_
      by_cases hb : x.natAbs < 9223372036854775808
      · have hs : small x = true := by unfold small; simp only [Bool.and_eq_true, decide_eq_true_eq]; omega
        refine W.dt [31] 27 (decide (((x.natAbs : Nat) : Int) < 9223372036854775808)) (by kernel_rfl) (by rw [decide_eq_true_iff]; omega) ?_
        refine W.r [27] (.tuple #[.int .i64 (IntKind.i64.wrap ((x.natAbs : Nat) : Int)), .bool true]) (by kernel_rfl) ⟨?_, rfl⟩ ent0
        rw [hs, if_pos rfl, i64_in _ (by omega), show ((x.natAbs : Nat) : Int) = x by omega]
      · have hs : small x = false := by unfold small; simp only [Bool.and_eq_false_iff, decide_eq_false_iff_not]; omega
        refine W.df [31] 27 (decide (((x.natAbs : Nat) : Int) < 9223372036854775808)) (by kernel_rfl) (by rw [decide_eq_false_iff_not]; omega) ?_
        exact W.r [27] (.tuple #[.int .i64 0, .bool false]) (by kernel_rfl) ⟨by rw [hs]; rfl, rfl⟩ ent0

theorem cmpZ_eq {x y : Int} : cmpZ x y = 0 ↔ x = y := by unfold cmpZ; (repeat' split) <;> omega
end

end Go.Proofs.Ytaafmafdnnjmdaa
