/- The whole numbers of zed: contracts. The whole numbers of the reference: contracts. Texts as whole numbers: both Parses. Texts as whole numbers: the reference's Parse; Small on both sides. Small on both sides; Bezout. -/
import Derived.Test.YtlpfkbkpnljieaaGreatPn
import Derived.Test.YtlpfkbkpnljieaaGreatMaths
import Derived.Test.YtlpfkbkpnljieaaGreatRefX
import Derived.IntWalk
set_option linter.unusedSimpArgs false
set_option linter.unusedVariables false
namespace Go.Proofs.YtlpfkbkpnljieaaGreat
open Go.RowKit Go.IntWalk

/-- Which is greater. -/
def cmpZ (x y : Int) : Int := if x < y then -1 else if x = y then 0 else 1
/-- A number's text. -/
def ztxt (x : Int) : ByteArray := if x < 0 then ⟨#[45]⟩ ++ txt (dec x.natAbs) else txt (dec x.natAbs)

theorem cmpN_abs_p {x y : Int} (hx : 0 ≤ x) (hy : 0 ≤ y) : cmpN x.natAbs y.natAbs = cmpZ x y := by
  unfold cmpN cmpZ
  have e1 : x.natAbs < y.natAbs ↔ x < y := by omega
  have e2 : x.natAbs = y.natAbs ↔ x = y := by omega
  simp only [e1, e2]
theorem cmpN_abs_n {x y : Int} (hx : x < 0) (hy : y < 0) : cmpN y.natAbs x.natAbs = cmpZ x y := by
  unfold cmpN cmpZ
  have e1 : y.natAbs < x.natAbs ↔ x < y := by omega
  have e2 : y.natAbs = x.natAbs ↔ x = y := by omega
  simp only [e1, e2]
theorem cmpZ_nat (x y : Nat) : cmpN x y = cmpZ x y := by
  have := cmpN_abs_p (x := (x : Int)) (y := (y : Int)) (by omega) (by omega)
  simpa using this
theorem bl_pos (x : Nat) : (0 < bl x) ↔ 0 < x := by
  have := bl_le x 0
  omega
theorem bl_zero (x : Nat) : bl x = 0 ↔ x = 0 := by
  have := bl_pos x
  omega

section
variable {fin : VS → List Fact → Prop} {Γ : List Fact} {L M : Nat}

/-- What follows from what is known. -/
theorem W.know {T : Tb} {P : Program} {c : Cfg} (φ : Prop) (hm : midOps c.k = false) (h : ∀ I w, DataOK T I w → Holds Γ I w → φ) (hk : φ → W T P fin c Γ) : W T P fin c Γ :=
  W.elim (α := Unit) (fun _ => φ) (fun _ => []) hm (fun I w hd hh => ⟨(), h I w hd hh, Holds.nil _ _⟩) (fun _ hp => hk hp)

theorem PCalls.info {T : Tb} {P : Program} {f : FuncId} {args : List Value} {post : Value → List Fact → Prop} (φ : Value → List Fact → Prop) (h : PCalls T P f args Γ post) (hi : ∀ v Δ, post v Δ → ∀ I w, Holds Δ I w → φ v Δ) : PCalls T P f args Γ (fun v Δ => post v Δ ∧ φ v Δ) :=
  ⟨h.1, fun I w hd hh => (h.2 I w hd hh).mono fun _ _ ⟨v, Δ, h1, h2, h3, h4⟩ => ⟨v, Δ, h1, ⟨h2, hi v Δ h2 _ _ h4⟩, h3, h4⟩⟩
theorem PCalls.post {T : Tb} {P : Program} {f : FuncId} {args : List Value} {post post' : Value → List Fact → Prop} (h : PCalls T P f args Γ post) (hp : ∀ v Δ, post v Δ → post' v Δ) : PCalls T P f args Γ post' := h.weak (fun _ _ _ hh => hh) hp

/-- Its distance, as a number of nat. -/
theorem W.zn {P : Program} {c : Cfg} (s : Sl) (b : Bool) {x : Int} [h : Has (ZF s b) (L, x) Γ] (hm : midOps c.k = false) (hk : b = decide (x < 0) → W tb P fin c (NF s (L, x.natAbs) :: Γ)) : W tb P fin c Γ :=
  W.elim (α := Unit) (fun _ => b = decide (x < 0)) (fun _ => [NF s (L, x.natAbs)]) hm (fun I w _ hh => ⟨(), (h.p hh).2, holds1 (h.p hh).1⟩) (fun _ hp => hk hp)

theorem entNZ {s : Sl} {d : Bool} {L' x : Nat} {z : Int} [h : Has (NF s) (L, x) Γ] (hL : L ≤ L') (hz : z.natAbs = x) (hd : d = decide (z < 0)) : ∀ (I : Blk) (w : World), DataOK tb I w → Holds Γ I w → Holds [ZF s d (L', z)] I w := fun I w _ hh => by
  subst hz
  obtain ⟨h1, h2, h3⟩ := h.p hh
  exact holds1 ⟨⟨h1, h2, Nat.le_trans h3 hL⟩, hd⟩
theorem entZN {s : Sl} {d : Bool} {L' x : Nat} {z : Int} [h : Has (ZF s d) (L, z) Γ] (hL : L ≤ L') (hz : z.natAbs = x) : ∀ (I : Blk) (w : World), DataOK tb I w → Holds Γ I w → Holds [NF s (L', x)] I w := fun I w _ hh => by
  subst hz
  obtain ⟨⟨h1, h2, h3⟩, _⟩ := h.p hh
  exact holds1 ⟨h1, h2, Nat.le_trans h3 hL⟩
theorem entAll {Δ Δ' : List Fact} (h : ∀ (I : Blk) (w : World), DataOK tb I w → Holds Γ I w → Holds Δ I w) (h' : ∀ (I : Blk) (w : World), DataOK tb I w → Holds Γ I w → Holds Δ' I w) : ∀ (I : Blk) (w : World), DataOK tb I w → Holds Γ I w → Holds (Δ ++ Δ') I w := fun I w hd hh => (h I w hd hh).append (h' I w hd hh)

theorem p_of' (z : Int) (x : Nat) (hz : z = x) (hx : x < 18446744073709551616) : PCalls tb Tryz.prog 57 [.int .u64 z] Γ (NPost 2 x) := by
  subst hz
  exact p_of x hx

theorem p_made' (s : Sl) (b : Bool) {x : Nat} [Has (NF s) (L, x) Γ] (hL : L ≤ 1000000000000 := by omega) :
    PCalls tb Tryz.prog 56 [mv s, .bool b] Γ (fun v Δ => ∃ (u : Sl) (d : Bool), v = zv u d ∧ d = (b && decide (0 < x)) ∧ Δ = [ZF u d (L, bif b then -(x : Int) else x)]) := by
  refine PCalls.of_W tbOk Tryz.func56 rfl (by kernel_rfl) ?_
  cases b with
  | true =>
    refine W.cl [7] (by kernel_rfl) (p_bits s) ?_
    rintro _ _ ⟨rfl, rfl⟩
    have hb := bl_pos x
    have e : decide (((bl x : Nat) : Int) > 0) = decide (0 < x) := by rw [decide_eq_decide]; omega
    refine W.r [7] (zv s (decide (((bl x : Nat) : Int) > 0))) (by kernel_rfl) ⟨s, _, rfl, by rw [e]; rfl, rfl⟩ (entNZ (Nat.le_refl _) (by simp) ?_)
    simp only [cond_true]
    rw [decide_eq_decide]
    omega
  | false =>
    refine W.r [7] (zv s false) (by kernel_rfl) ⟨s, _, rfl, rfl, rfl⟩ (entNZ (Nat.le_refl _) (by simp) ?_)
    simp only [cond_false]
    rw [eq_comm, decide_eq_false_iff_not]
    omega

theorem p_made (s : Sl) (b : Bool) {x : Nat} [Has (NF s) (L, x) Γ] (hL : L ≤ 1000000000000 := by omega) :
    PCalls tb Tryz.prog 56 [mv s, .bool b] Γ (ZPost L (bif b then -(x : Int) else x)) :=
  (p_made' s b hL).post fun _ _ ⟨u, d, h1, _, h2⟩ => ⟨u, d, h1, h2⟩

theorem p_zbig (s : Sl) {x : Nat} [Has (NF s) (L, x) Γ] (hL : L ≤ 1000000000000 := by omega) :
    PCalls tb Tryz.prog 51 [mv s] Γ (ZPost L (x : Int)) := by
  refine PCalls.of_W tbOk Tryz.func51 rfl (by kernel_rfl) ?_
  refine W.cl [] (by kernel_rfl) (p_made s false) ?_
  rintro _ _ ⟨u, d, rfl, rfl⟩
  exact W.r [] (zv u d) (by kernel_rfl) ⟨u, d, rfl, rfl⟩ (entZ (Nat.le_refl _) rfl)

theorem p_zof (n : Int) (h1 : -9223372036854775808 ≤ n) (h2 : n < 9223372036854775808) : PCalls tb Tryz.prog 24 [.int .i64 n] Γ (ZPost 2 n) := by
  refine PCalls.of_W tbOk Tryz.func24 rfl (by kernel_rfl) ?_
  refine W.d [] 4 (decide (n < 0)) (by kernel_rfl) (fun hn => ?_) (fun hn => ?_)
  · have hn := of_decide_eq_true hn
    have e : IntKind.u64.wrap (IntKind.u64.wrap (IntKind.i64.wrap (0 - IntKind.i64.wrap (n + 1))) + 1) = ((-n).toNat : Int) := by
      rw [i64_in (n + 1) (by omega), i64_in (0 - (n + 1)) (by omega), u64_in (0 - (n + 1)) (by omega), u64_in _ (by omega)]
      omega
    refine W.cl [4] (by kernel_rfl) (p_of' (IntKind.u64.wrap (IntKind.u64.wrap (IntKind.i64.wrap (0 - IntKind.i64.wrap (n + 1))) + 1)) (-n).toNat e (by omega)) ?_
    rintro _ _ ⟨u, rfl, rfl⟩
    refine W.cl [] (by kernel_rfl) (p_made u true) ?_
    rintro _ _ ⟨t, d, rfl, rfl⟩
    exact W.r [] (zv t d) (by kernel_rfl) ⟨t, d, rfl, rfl⟩ (entZ (Nat.le_refl _) (by simp; omega))
  · have hn := of_decide_eq_false hn
    have e : IntKind.u64.wrap n = (n.toNat : Int) := by rw [u64_in _ (by omega)]; omega
    refine W.cl [4] (by kernel_rfl) (p_of' (IntKind.u64.wrap n) n.toNat e (by omega)) ?_
    rintro _ _ ⟨u, rfl, rfl⟩
    refine W.cl [] (by kernel_rfl) (p_made u false) ?_
    rintro _ _ ⟨t, d, rfl, rfl⟩
    exact W.r [] (zv t d) (by kernel_rfl) ⟨t, d, rfl, rfl⟩ (entZ (Nat.le_refl _) (by simp; omega))

theorem p_zabs (s : Sl) (b : Bool) {x : Int} [Has (ZF s b) (L, x) Γ] : PCalls tb Tryz.prog 96 [zv s b] Γ (fun v Δ => v = mv s ∧ Δ = [NF s (L, x.natAbs)]) := by
  refine PCalls.of_W tbOk Tryz.func96 rfl (by kernel_rfl) ?_
  exact W.r [] (mv s) (by kernel_rfl) ⟨rfl, rfl⟩ (entZN (d := b) (Nat.le_refl _) rfl)

theorem p_zsign (s : Sl) (b : Bool) {x : Int} [Has (ZF s b) (L, x) Γ] (hL : L ≤ 1000000000000 := by omega) : PCalls tb Tryz.prog 83 [zv s b] Γ (IsV (.int .i64 x.sign)) := by
  refine PCalls.of_W tbOk Tryz.func83 rfl (by kernel_rfl) ?_
  refine W.zn s b rfl ?_
  rintro rfl
  refine W.d [] 3 (decide (x < 0)) (by kernel_rfl) (fun hn => ?_) (fun hn => ?_)
  · have hn := of_decide_eq_true hn
    exact W.r [3] (.int .i64 (-1)) (by kernel_rfl) ⟨by rw [Int.sign_eq_neg_one_of_neg hn], rfl⟩ ent0
  · have hn := of_decide_eq_false hn
    refine W.cl [3] (by kernel_rfl) (p_bits s) ?_
    rintro _ _ ⟨rfl, rfl⟩
    have hz := bl_zero x.natAbs
    refine W.d [] 6 (((bl x.natAbs : Nat) : Int) == 0) (by kernel_rfl) (fun h0 => ?_) (fun h0 => ?_)
    · have h0 := eq_of_beq h0
      have : x = 0 := by omega
      exact W.r [6] (.int .i64 0) (by kernel_rfl) ⟨by rw [this]; rfl, rfl⟩ ent0
    · have h0 := ne_of_beq_false h0
      exact W.r [6] (.int .i64 1) (by kernel_rfl) ⟨by rw [Int.sign_eq_one_of_pos (by omega)], rfl⟩ ent0

theorem p_zcmp (s : Sl) (b : Bool) (t : Sl) (c : Bool) {x y : Int} [Has (ZF s b) (L, x) Γ] [Has (ZF t c) (M, y) Γ] (hL : L ≤ 1000000000000 := by omega) (hM : M ≤ 1000000000000 := by omega) :
    PCalls tb Tryz.prog 62 [zv s b, zv t c] Γ (IsV (.int .i64 (cmpZ x y))) := by
  refine PCalls.of_W tbOk Tryz.func62 rfl (by kernel_rfl) ?_
  refine W.zn s b rfl ?_
  rintro rfl
  refine W.zn t c rfl ?_
  rintro rfl
  by_cases hx : x < 0 <;> by_cases hy : y < 0
  · refine W.df [] 5 (!(decide (x < 0) == decide (y < 0))) (by kernel_rfl) (by simp [hx, hy]) ?_
    refine W.dt [5] 13 (decide (x < 0)) (by kernel_rfl) (by simp [hx]) ?_
    refine W.cl [13] (by kernel_rfl) (p_cmp t s) ?_
    rintro _ _ ⟨rfl, rfl⟩
    exact W.r [] (.int .i64 (cmpN y.natAbs x.natAbs)) (by kernel_rfl) ⟨by rw [cmpN_abs_n hx hy], rfl⟩ ent0
  · refine W.dt [] 5 (!(decide (x < 0) == decide (y < 0))) (by kernel_rfl) (by simp [hx, hy]) ?_
    refine W.dt [5] 12 (decide (x < 0)) (by kernel_rfl) (by simp [hx]) ?_
    exact W.r [12] (.int .i64 (-1)) (by kernel_rfl) ⟨by unfold cmpZ; rw [if_pos (by omega)], rfl⟩ ent0
  · refine W.dt [] 5 (!(decide (x < 0) == decide (y < 0))) (by kernel_rfl) (by simp [hx, hy]) ?_
    refine W.df [5] 12 (decide (x < 0)) (by kernel_rfl) (by simp [hx]) ?_
    exact W.r [12] (.int .i64 1) (by kernel_rfl) ⟨by unfold cmpZ; rw [if_neg (by omega), if_neg (by omega)], rfl⟩ ent0
  · refine W.df [] 5 (!(decide (x < 0) == decide (y < 0))) (by kernel_rfl) (by simp [hx, hy]) ?_
    refine W.df [5] 13 (decide (x < 0)) (by kernel_rfl) (by simp [hx]) ?_
    refine W.cl [13] (by kernel_rfl) (p_cmp s t) ?_
    rintro _ _ ⟨rfl, rfl⟩
    exact W.r [] (.int .i64 (cmpN x.natAbs y.natAbs)) (by kernel_rfl) ⟨by rw [cmpN_abs_p (by omega) (by omega)], rfl⟩ ent0

theorem p_zneg (s : Sl) (b : Bool) {x : Int} [Has (ZF s b) (L, x) Γ] (hL : L ≤ 1000000000000 := by omega) : PCalls tb Tryz.prog 98 [zv s b] Γ (ZPost L (-x)) := by
  refine PCalls.of_W tbOk Tryz.func98 rfl (by kernel_rfl) ?_
  refine W.zn s b rfl ?_
  rintro rfl
  refine W.cl [] (by kernel_rfl) (p_made s (!decide (x < 0))) ?_
  rintro _ _ ⟨u, d, rfl, rfl⟩
  refine W.r [] (zv u d) (by kernel_rfl) ⟨u, d, rfl, rfl⟩ (entZ (Nat.le_refl _) ?_)
  by_cases hx : x < 0 <;> simp [hx] <;> omega

theorem p_zadd (s : Sl) (b : Bool) (t : Sl) (c : Bool) {x y : Int} [Has (ZF s b) (L, x) Γ] [Has (ZF t c) (M, y) Γ] (hL : L ≤ 1000000000 := by omega) (hM : M ≤ 1000000000 := by omega) :
    PCalls tb Tryz.prog 108 [zv s b, zv t c] Γ (ZPost (max L M + 1) (x + y)) := by
  refine PCalls.of_W tbOk Tryz.func108 rfl (by kernel_rfl) ?_
  refine W.zn s b rfl ?_
  rintro rfl
  refine W.zn t c rfl ?_
  rintro rfl
  refine W.d [] 13 (decide (x < 0) == decide (y < 0)) (by kernel_rfl) (fun hb => ?_) (fun hb => ?_)
  · have hb := eq_of_beq hb
    rw [decide_eq_decide] at hb
    refine W.cl [13] (by kernel_rfl) (p_add s t) ?_
    rintro _ _ ⟨u, rfl, rfl⟩
    refine W.cl [] (by kernel_rfl) (p_made u (decide (x < 0))) ?_
    rintro _ _ ⟨u2, d2, rfl, rfl⟩
    refine W.r [] (zv u2 d2) (by kernel_rfl) ⟨u2, d2, rfl, rfl⟩ (entZ (Nat.le_refl _) ?_)
    by_cases hx : x < 0 <;> simp [hx] <;> omega
  · have hb := ne_of_beq_false hb
    rw [ne_eq, decide_eq_decide] at hb
    rcases Nat.lt_or_ge x.natAbs y.natAbs with hxy | hxy
    · refine W.cl [13] (by kernel_rfl) (p_sub_lt s t hxy) ?_
      rintro _ _ ⟨rfl, rfl⟩
      refine W.cl [31] (by kernel_rfl) (p_sub_ge t s (Nat.le_of_lt hxy)) ?_
      rintro _ _ ⟨u, rfl, rfl⟩
      refine W.cl [] (by kernel_rfl) (p_made u (decide (y < 0))) ?_
      rintro _ _ ⟨u2, d2, rfl, rfl⟩
      refine W.r [] (zv u2 d2) (by kernel_rfl) ⟨u2, d2, rfl, rfl⟩ (entZ (by omega) ?_)
      by_cases hx : x < 0 <;> by_cases hy : y < 0 <;> simp [hy] <;> omega
    · refine W.cl [13] (by kernel_rfl) (p_sub_ge s t hxy) ?_
      rintro _ _ ⟨u, rfl, rfl⟩
      refine W.cl [31] (by kernel_rfl) (p_made u (decide (x < 0))) ?_
      rintro _ _ ⟨u2, d2, rfl, rfl⟩
      refine W.r [] (zv u2 d2) (by kernel_rfl) ⟨u2, d2, rfl, rfl⟩ (entZ (by omega) ?_)
      by_cases hx : x < 0 <;> by_cases hy : y < 0 <;> simp [hx] <;> omega

theorem p_zsub (s : Sl) (b : Bool) (t : Sl) (c : Bool) {x y : Int} [Has (ZF s b) (L, x) Γ] [Has (ZF t c) (M, y) Γ] (hL : L ≤ 1000000000 := by omega) (hM : M ≤ 1000000000 := by omega) :
    PCalls tb Tryz.prog 91 [zv s b, zv t c] Γ (ZPost (max L M + 1) (x - y)) := by
  refine PCalls.of_W tbOk Tryz.func91 rfl (by kernel_rfl) ?_
  refine W.cl [] (by kernel_rfl) (p_zneg t c) ?_
  rintro _ _ ⟨u, d, rfl, rfl⟩
  refine W.cl [] (by kernel_rfl) (p_zadd s b u d) ?_
  rintro _ _ ⟨u2, d2, rfl, rfl⟩
  exact W.r [] (zv u2 d2) (by kernel_rfl) ⟨u2, d2, rfl, rfl⟩ (entZ (Nat.le_refl _) (by omega))

theorem p_zmul (s : Sl) (b : Bool) (t : Sl) (c : Bool) {x y : Int} [Has (ZF s b) (L, x) Γ] [Has (ZF t c) (M, y) Γ] (hL : L ≤ 1000000000 := by omega) (hM : M ≤ 1000000000 := by omega) :
    PCalls tb Tryz.prog 60 [zv s b, zv t c] Γ (ZPost (L + M) (x * y)) := by
  refine PCalls.of_W tbOk Tryz.func60 rfl (by kernel_rfl) ?_
  refine W.zn s b rfl ?_
  rintro rfl
  refine W.zn t c rfl ?_
  rintro rfl
  refine W.cl [] (by kernel_rfl) (p_mul s t) ?_
  rintro _ _ ⟨u, rfl, rfl⟩
  refine W.cl [] (by kernel_rfl) (p_made u (!(decide (x < 0) == decide (y < 0)))) ?_
  rintro _ _ ⟨u2, d2, rfl, rfl⟩
  refine W.r [] (zv u2 d2) (by kernel_rfl) ⟨u2, d2, rfl, rfl⟩ (entZ (Nat.le_refl _) ?_)
  rw [Int.natCast_mul]
  by_cases hx : x < 0 <;> by_cases hy : y < 0 <;> simp only [hx, hy, decide_true, decide_false, beq_self_eq_true, Bool.not_true, cond_false, cond_true]
  · rw [show ((x.natAbs : Nat) : Int) = -x by omega, show ((y.natAbs : Nat) : Int) = -y by omega, Int.neg_mul_neg]
  · rw [show ((x.natAbs : Nat) : Int) = -x by omega, show ((y.natAbs : Nat) : Int) = y by omega]
    simp [Int.neg_mul]
  · rw [show ((x.natAbs : Nat) : Int) = x by omega, show ((y.natAbs : Nat) : Int) = -y by omega]
    simp [Int.mul_neg]
  · rw [show ((x.natAbs : Nat) : Int) = x by omega, show ((y.natAbs : Nat) : Int) = y by omega]

/-- The quotient, rounded down, and the rest. -/
theorem p_zfloor (s : Sl) (b : Bool) (t : Sl) (c : Bool) {x y : Int} [Has (ZF s b) (L, x) Γ] [Has (ZF t c) (M, y) Γ] (hy : y ≠ 0) (hL : L ≤ 1000000000 := by omega) (hM : M ≤ 1000000000 := by omega) :
    PCalls tb Tryz.prog 89 [zv s b, zv t c] Γ (fun v Δ => ∃ (u : Sl) (d : Bool) (u' : Sl) (d' : Bool), v = .tuple #[zv u d, zv u' d', .int .i64 0] ∧ Δ = [ZF u d (max L 2 + 1, x / y), ZF u' d' (max L M + 1, x % y)]) := by
  refine PCalls.of_W tbOk Tryz.func89 rfl (by kernel_rfl) ?_
  refine W.zn s b rfl ?_
  rintro rfl
  refine W.zn t c rfl ?_
  rintro rfl
  refine W.cl [] (by kernel_rfl) (p_div s t (by omega)) ?_
  rintro _ _ ⟨q, r, rfl, rfl⟩
  refine W.cl [22] (by kernel_rfl) (p_made q (!(decide (x < 0) == decide (y < 0)))) ?_
  rintro _ _ ⟨u2, d2, rfl, rfl⟩
  refine W.cl [] (by kernel_rfl) (p_made' r (decide (x < 0))) ?_
  rintro _ _ ⟨u3, d3, rfl, hd3, rfl⟩
  by_cases hx : x < 0
  · by_cases hr : x.natAbs % y.natAbs = 0
    · obtain ⟨e1, e2⟩ := floor_neg_zero hx hy hr
      refine W.df [] 38 d3 (by kernel_rfl) (by rw [hd3]; simp [hx, hr]) ?_
      refine W.r [38] (.tuple #[zv u2 d2, zv u3 d3, .int .i64 0]) (by kernel_rfl) ⟨u2, d2, u3, d3, rfl, rfl⟩ (entAll (entZ (by omega) ?_) (entZ (by omega) ?_))
      · rw [e1]
        by_cases hyn : y < 0 <;> simp [hx, hyn]
      · rw [e2]; simp [hr]
    · obtain ⟨e1, e2⟩ := floor_neg_pos hx hy hr
      refine W.dt [] 38 d3 (by kernel_rfl) (by rw [hd3]; simp [hx] <;> omega) ?_
      refine W.cl [38] (by kernel_rfl) (p_zbig t) ?_
      rintro _ _ ⟨u4, d4, rfl, rfl⟩
      refine W.cl [] (by kernel_rfl) (p_zadd u3 d3 u4 d4) ?_
      rintro _ _ ⟨u5, d5, rfl, rfl⟩
      by_cases hyn : y < 0
      · refine W.dt [] 45 (decide (y < 0)) (by kernel_rfl) (by simp [hyn]) ?_
        refine W.cl [45] (by kernel_rfl) (p_zof 1 (by omega) (by omega)) ?_
        rintro _ _ ⟨u6, d6, rfl, rfl⟩
        refine W.cl [] (by kernel_rfl) (p_zadd u2 d2 u6 d6) ?_
        rintro _ _ ⟨u7, d7, rfl, rfl⟩
        refine W.r [] (.tuple #[zv u7 d7, zv u5 d5, .int .i64 0]) (by kernel_rfl) ⟨u7, d7, u5, d5, rfl, rfl⟩ (entAll (entZ (by omega) ?_) (entZ (by omega) ?_))
        · rw [e1]; simp [hx, hyn]
        · rw [e2]; simp [hx]; omega
      · refine W.df [] 45 (decide (y < 0)) (by kernel_rfl) (by simp [hyn]) ?_
        refine W.cl [45] (by kernel_rfl) (p_zof 1 (by omega) (by omega)) ?_
        rintro _ _ ⟨u6, d6, rfl, rfl⟩
        refine W.cl [] (by kernel_rfl) (p_zsub u2 d2 u6 d6) ?_
        rintro _ _ ⟨u7, d7, rfl, rfl⟩
        refine W.r [] (.tuple #[zv u7 d7, zv u5 d5, .int .i64 0]) (by kernel_rfl) ⟨u7, d7, u5, d5, rfl, rfl⟩ (entAll (entZ (by omega) ?_) (entZ (by omega) ?_))
        · rw [e1]; simp [hx, hyn]
        · rw [e2]; simp [hx]; omega
  · obtain ⟨e1, e2⟩ := floor_pos_div (a := x) (b := y) (by omega) hy
    refine W.df [] 38 d3 (by kernel_rfl) (by rw [hd3]; simp [hx] <;> omega) ?_
    refine W.r [38] (.tuple #[zv u2 d2, zv u3 d3, .int .i64 0]) (by kernel_rfl) ⟨u2, d2, u3, d3, rfl, rfl⟩ (entAll (entZ (by omega) ?_) (entZ (by omega) ?_))
    · rw [e1]
      by_cases hyn : y < 0 <;> simp [hx, hyn]
    · rw [e2]; simp [hx]

theorem p_ztext (s : Sl) (b : Bool) {x : Int} [Has (ZF s b) (L, x) Γ] (hL : L ≤ 1000000 := by omega) : PCalls tb Tryz.prog 72 [zv s b] Γ (IsV (.string (ztxt x))) := by
  refine PCalls.of_W tbOk Tryz.func72 rfl (by kernel_rfl) ?_
  refine W.zn s b rfl ?_
  rintro rfl
  refine W.know ((txt (dec x.natAbs)).size ≤ 1000000000) rfl (fun I w _ hh => ?_) (fun hsz => ?_)
  · obtain ⟨h1, h2, h3⟩ := hh.h0'
    have h1 : NatS w s x.natAbs := h1
    have := txt_dec_size (dl_bound h1)
    simp only at h3
    omega
  refine W.d [] 4 (decide (x < 0)) (by kernel_rfl) (fun hn => ?_) (fun hn => ?_)
  · have hn := of_decide_eq_true hn
    refine W.cl [4] (by kernel_rfl) (p_text s) ?_
    rintro _ _ ⟨rfl, rfl⟩
    refine W.cat [] ⟨#[45]⟩ (txt (dec x.natAbs)) (by kernel_rfl) (by have : (⟨#[45]⟩ : ByteArray).size = 1 := rfl; omega) ?_
    exact W.r [] (.string (⟨#[45]⟩ ++ txt (dec x.natAbs))) (by kernel_rfl) ⟨by unfold ztxt; rw [if_pos hn], rfl⟩ ent0
  · have hn := of_decide_eq_false hn
    refine W.cl [4] (by kernel_rfl) (p_text s) ?_
    rintro _ _ ⟨rfl, rfl⟩
    exact W.r [] (.string (txt (dec x.natAbs))) (by kernel_rfl) ⟨by unfold ztxt; rw [if_neg hn], rfl⟩ ent0
end

end Go.Proofs.YtlpfkbkpnljieaaGreat

namespace Go.Proofs.YtlpfkbkpnljieaaGreat
open Go.RowKit Go.IntWalk

section
variable {fin : VS → List Fact → Prop} {Γ : List Fact} {L M : Nat}

theorem W.yr {P : Program} {c : Cfg} (S : Int) (s : Sl) {x : Int} [h : Has (YF S s) (L, x) Γ] (hm : midOps c.k = false) (hk : S = x.sign → (x = 0 ↔ s.n = 0) → W tb P fin c (RF s (L, x.natAbs) :: Γ)) : W tb P fin c Γ :=
  W.elim (α := Unit) (fun _ => S = x.sign ∧ (x = 0 ↔ s.n = 0)) (fun _ => [RF s (L, x.natAbs)]) hm (fun I w _ hh => ⟨(), ⟨(h.p hh).2, by
    have h1 : RefS w s x.natAbs := (h.p hh).1.1
    have := h1.zero_iff
    omega⟩, holds1 (h.p hh).1⟩) (fun _ hp => hk hp.1 hp.2)
theorem W.rz {P : Program} {c : Cfg} (s : Sl) {x : Nat} [h : Has (RF s) (L, x) Γ] (hm : midOps c.k = false) (hk : (x = 0 ↔ s.n = 0) → W tb P fin c Γ) : W tb P fin c Γ :=
  W.know _ hm (fun _ w _ hh => by
    have h1 : RefS w s x := (h.p hh).1
    exact h1.zero_iff) hk
theorem entRY {s : Sl} {S : Int} {L' x : Nat} {z : Int} [h : Has (RF s) (L, x) Γ] (hL : L ≤ L') (hz : z.natAbs = x) (hd : S = z.sign) : ∀ (I : Blk) (w : World), DataOK tb I w → Holds Γ I w → Holds [YF S s (L', z)] I w := fun I w _ hh => by
  subst hz
  obtain ⟨h1, h2, h3⟩ := h.p hh
  exact holds1 ⟨⟨h1, h2, Nat.le_trans h3 hL⟩, hd⟩
theorem entYnil {L' : Nat} : ∀ (I : Blk) (w : World), DataOK tb I w → Holds Γ I w → Holds [YF 0 ⟨none, 0, 0⟩ (L', 0)] I w := fun I w _ _ => by
  obtain ⟨h1, h2, h3⟩ := RFnil I w
  exact holds1 ⟨⟨h1, h2, Nat.le_trans h3 (Nat.zero_le _)⟩, rfl⟩
theorem entZnil {L' : Nat} : ∀ (I : Blk) (w : World), DataOK tb I w → Holds Γ I w → Holds [ZF ⟨none, 0, 0⟩ false (L', 0)] I w := fun I w _ _ => by
  obtain ⟨h1, h2, h3⟩ := NFnil I w
  exact holds1 ⟨⟨h1, h2, Nat.le_trans h3 (Nat.zero_le _)⟩, rfl⟩

theorem r_of' (z : Int) (x : Nat) (hz : z = x) (hx : x < 18446744073709551616) : PCalls tb Tryz.prog 46 [.int .u64 z] Γ (RPost 5 x) := by
  subst hz
  exact r_of x hx

/-- A sign, and how far from 0. -/
theorem p_ymade (S z : Int) (s : Sl) {x : Nat} [Has (RF s) (L, x) Γ] (hS : z.natAbs = x ∧ (x ≠ 0 → S = z.sign)) :
    PCalls tb Tryz.prog 44 [.int .i64 S, mv s] Γ (YPost L z) := by
  refine PCalls.of_W tbOk Tryz.func44 rfl (by kernel_rfl) ?_
  refine W.rz s rfl (fun h0 => ?_)
  refine W.d [] 8 (((s.n : Nat) : Int) == 0) (by kernel_rfl) (fun hn => ?_) (fun hn => ?_)
  · have hn := eq_of_beq hn
    have : z = 0 := by omega
    subst this
    exact W.r [8] (yv 0 ⟨none, 0, 0⟩) (by kernel_rfl) ⟨0, ⟨none, 0, 0⟩, rfl, rfl⟩ entYnil
  · have hn := ne_of_beq_false hn
    exact W.r [8] (yv S s) (by kernel_rfl) ⟨S, s, rfl, rfl⟩ (entRY (Nat.le_refl _) hS.1 (hS.2 (by omega)))

theorem p_yof (n : Int) (h1 : -9223372036854775808 ≤ n) (h2 : n < 9223372036854775808) : PCalls tb Tryz.prog 19 [.int .i64 n] Γ (YPost 6 n) := by
  refine PCalls.of_W tbOk Tryz.func19 rfl (by kernel_rfl) ?_
  refine W.d [] 4 (decide (n < 0)) (by kernel_rfl) (fun hn => ?_) (fun hn => ?_)
  · have hn := of_decide_eq_true hn
    have e : IntKind.u64.wrap (IntKind.i64.wrap (0 - IntKind.i64.wrap (n + 1))) = ((-(n + 1)).toNat : Int) := by
      rw [i64_in (n + 1) (by omega), i64_in (0 - (n + 1)) (by omega), u64_in (0 - (n + 1)) (by omega)]
      omega
    refine W.cl [4] (by kernel_rfl) (r_of' (IntKind.u64.wrap (IntKind.i64.wrap (0 - IntKind.i64.wrap (n + 1)))) (-(n + 1)).toNat e (by omega)) ?_
    rintro _ _ ⟨u, rfl, rfl⟩
    refine W.cl [] (by kernel_rfl) (r_of 1 (by omega)) ?_
    rintro _ _ ⟨u2, rfl, rfl⟩
    refine W.cl [] (by kernel_rfl) (r_add u u2) ?_
    rintro _ _ ⟨u3, rfl, rfl⟩
    refine W.cl [] (by kernel_rfl) (p_ymade (-1) n u3 ⟨by omega, fun _ => by rw [Int.sign_eq_neg_one_of_neg hn]⟩) ?_
    rintro _ _ ⟨S, t, rfl, rfl⟩
    exact W.r [] (yv S t) (by kernel_rfl) ⟨S, t, rfl, rfl⟩ (entY (by omega) rfl)
  · have hn := of_decide_eq_false hn
    have e : IntKind.u64.wrap n = (n.toNat : Int) := by rw [u64_in _ (by omega)]; omega
    refine W.cl [4] (by kernel_rfl) (r_of' (IntKind.u64.wrap n) n.toNat e (by omega)) ?_
    rintro _ _ ⟨u, rfl, rfl⟩
    refine W.cl [] (by kernel_rfl) (p_ymade 1 n u ⟨by omega, fun _ => by rw [Int.sign_eq_one_of_pos (by omega)]⟩) ?_
    rintro _ _ ⟨S, t, rfl, rfl⟩
    exact W.r [] (yv S t) (by kernel_rfl) ⟨S, t, rfl, rfl⟩ (entY (by omega) rfl)

theorem sign_lt {x : Int} : x.sign < 0 ↔ x < 0 := by
  rcases Int.lt_trichotomy x 0 with h | h | h
  · rw [Int.sign_eq_neg_one_of_neg h]; omega
  · subst h; simp
  · rw [Int.sign_eq_one_of_pos h]; omega
theorem sign_zero {x : Int} : x.sign = 0 ↔ x = 0 := Int.sign_eq_zero_iff_zero
theorem sign_cases (x : Int) : (x < 0 ∧ x.sign = -1) ∨ (x = 0 ∧ x.sign = 0) ∨ (0 < x ∧ x.sign = 1) := by
  rcases Int.lt_trichotomy x 0 with h | h | h
  · exact .inl ⟨h, Int.sign_eq_neg_one_of_neg h⟩
  · exact .inr (.inl ⟨h, by rw [h]; rfl⟩)
  · exact .inr (.inr ⟨h, Int.sign_eq_one_of_pos h⟩)

theorem p_ytext (S : Int) (s : Sl) {x : Int} [Has (YF S s) (L, x) Γ] (hL : L ≤ 1000000 := by omega) : PCalls tb Tryz.prog 73 [yv S s] Γ (IsV (.string (ztxt x))) := by
  refine PCalls.of_W tbOk Tryz.func73 rfl (by kernel_rfl) ?_
  refine W.yr S s rfl ?_
  rintro rfl h0
  refine W.know ((txt (dec x.natAbs)).size ≤ 1000000000) rfl (fun I w _ hh => ?_) (fun hsz => ?_)
  · obtain ⟨h1, h2, h3⟩ := hh.h0'
    have h1 : RefS w s x.natAbs := h1
    have := txt_dec_size (rdl_bound h1)
    simp only at h3
    omega
  refine W.d [] 5 (decide (x.sign < 0)) (by kernel_rfl) (fun hn => ?_) (fun hn => ?_)
  · have hn := sign_lt.1 (of_decide_eq_true hn)
    refine W.cl [5] (by kernel_rfl) (r_text s) ?_
    rintro _ _ ⟨rfl, rfl⟩
    refine W.cat [] ⟨#[45]⟩ (txt (dec x.natAbs)) (by kernel_rfl) (by have : (⟨#[45]⟩ : ByteArray).size = 1 := rfl; omega) ?_
    exact W.r [] (.string (⟨#[45]⟩ ++ txt (dec x.natAbs))) (by kernel_rfl) ⟨by unfold ztxt; rw [if_pos hn], rfl⟩ ent0
  · have hn := of_decide_eq_false hn
    rw [sign_lt] at hn
    refine W.cl [5] (by kernel_rfl) (r_text s) ?_
    rintro _ _ ⟨rfl, rfl⟩
    exact W.r [] (.string (txt (dec x.natAbs))) (by kernel_rfl) ⟨by unfold ztxt; rw [if_neg hn], rfl⟩ ent0

theorem p_yneg (S : Int) (s : Sl) {x : Int} [Has (YF S s) (L, x) Γ] : PCalls tb Tryz.prog 77 [yv S s] Γ (YPost L (-x)) := by
  refine PCalls.of_W tbOk Tryz.func77 rfl (by kernel_rfl) ?_
  refine W.yr S s rfl ?_
  rintro rfl h0
  refine W.cl [] (by kernel_rfl) (p_ymade (IntKind.i64.wrap (0 - x.sign)) (-x) s ⟨by omega, fun _ => ?_⟩) ?_
  · rcases sign_cases x with ⟨h, e⟩ | ⟨h, e⟩ | ⟨h, e⟩ <;> rw [Int.sign_neg, e] <;> rfl
  rintro _ _ ⟨S, t, rfl, rfl⟩
  exact W.r [] (yv S t) (by kernel_rfl) ⟨S, t, rfl, rfl⟩ (entY (by omega) rfl)

theorem p_ycmp (S : Int) (s : Sl) (R : Int) (t : Sl) {x y : Int} [Has (YF S s) (L, x) Γ] [Has (YF R t) (M, y) Γ] (hL : L ≤ 7900000000000 := by omega) (hM : M ≤ 7900000000000 := by omega) :
    PCalls tb Tryz.prog 100 [yv S s, yv R t] Γ (IsV (.int .i64 (cmpZ x y))) := by
  refine PCalls.of_W tbOk Tryz.func100 rfl (by kernel_rfl) ?_
  refine W.yr S s rfl ?_
  rintro rfl h0
  refine W.yr R t rfl ?_
  rintro rfl h0'
  refine W.d [] 9 (decide (x.sign < y.sign)) (by kernel_rfl) (fun hn => ?_) (fun hn => ?_)
  · have hn := of_decide_eq_true hn
    exact W.r [9] (.int .i64 (-1)) (by kernel_rfl) ⟨by
      unfold cmpZ
      rw [if_pos]
      rcases sign_cases x with ⟨h, e⟩ | ⟨h, e⟩ | ⟨h, e⟩ <;> rcases sign_cases y with ⟨g, f⟩ | ⟨g, f⟩ | ⟨g, f⟩ <;> omega, rfl⟩ ent0
  · have hn := of_decide_eq_false hn
    refine W.d [9] 14 (decide (x.sign > y.sign)) (by kernel_rfl) (fun hm => ?_) (fun hm => ?_)
    · have hm := of_decide_eq_true hm
      exact W.r [14] (.int .i64 1) (by kernel_rfl) ⟨by
        have : y < x := by rcases sign_cases x with ⟨h, e⟩ | ⟨h, e⟩ | ⟨h, e⟩ <;> rcases sign_cases y with ⟨g, f⟩ | ⟨g, f⟩ | ⟨g, f⟩ <;> omega
        unfold cmpZ
        rw [if_neg (by omega), if_neg (by omega)], rfl⟩ ent0
    · have hm := of_decide_eq_false hm
      refine W.cl [14] (by kernel_rfl) (r_cmp s t) ?_
      rintro _ _ ⟨rfl, rfl⟩
      refine W.r [] (.int .i64 (IntKind.i64.wrap (x.sign * cmpN x.natAbs y.natAbs))) (by kernel_rfl) ⟨?_, rfl⟩ ent0
      rw [show x.sign * cmpN x.natAbs y.natAbs = cmpZ x y from ?_]
      · unfold cmpZ
        split
        · rfl
        · split <;> rfl
      · unfold cmpN cmpZ
        rcases sign_cases x with ⟨h, e⟩ | ⟨h, e⟩ | ⟨h, e⟩ <;> rcases sign_cases y with ⟨g, f⟩ | ⟨g, f⟩ | ⟨g, f⟩ <;> (try omega) <;> rw [e] <;> (repeat' split) <;> omega

theorem p_yadd (S : Int) (s : Sl) (R : Int) (t : Sl) {x y : Int} [Has (YF S s) (L, x) Γ] [Has (YF R t) (M, y) Γ] (hL : L ≤ 7900000000000 := by omega) (hM : M ≤ 7900000000000 := by omega) :
    PCalls tb Tryz.prog 103 [yv S s, yv R t] Γ (YPost (max L M + 1) (x + y)) := by
  refine PCalls.of_W tbOk Tryz.func103 rfl (by kernel_rfl) ?_
  refine W.yr S s rfl ?_
  rintro rfl h0
  refine W.yr R t rfl ?_
  rintro rfl h0'
  refine W.d [] 7 (x.sign == 0) (by kernel_rfl) (fun hn => ?_) (fun hn => ?_)
  · have hn := sign_zero.1 (eq_of_beq hn)
    exact W.r [7] (yv y.sign t) (by kernel_rfl) ⟨_, t, rfl, rfl⟩ (entY (b := y.sign) (by omega) (by omega))
  have hn := ne_of_beq_false hn
  rw [ne_eq, sign_zero] at hn
  refine W.d [7] 11 (y.sign == 0) (by kernel_rfl) (fun hm => ?_) (fun hm => ?_)
  · have hm := sign_zero.1 (eq_of_beq hm)
    exact W.r [11] (yv x.sign s) (by kernel_rfl) ⟨_, s, rfl, rfl⟩ (entY (b := x.sign) (by omega) (by omega))
  have hm := ne_of_beq_false hm
  rw [ne_eq, sign_zero] at hm
  refine W.d [11] 17 (x.sign == y.sign) (by kernel_rfl) (fun hs => ?_) (fun hs => ?_)
  · have hs := eq_of_beq hs
    refine W.cl [17] (by kernel_rfl) (r_add s t) ?_
    rintro _ _ ⟨u, rfl, rfl⟩
    refine W.cl [] (by kernel_rfl) (p_ymade x.sign (x + y) u ?_) ?_
    · rcases sign_cases x with ⟨h, e⟩ | ⟨h, e⟩ | ⟨h, e⟩ <;> rcases sign_cases y with ⟨g, f⟩ | ⟨g, f⟩ | ⟨g, f⟩ <;> rcases sign_cases (x + y) with ⟨k, j⟩ | ⟨k, j⟩ | ⟨k, j⟩ <;> constructor <;> omega
    rintro _ _ ⟨S, t, rfl, rfl⟩
    exact W.r [] (yv S t) (by kernel_rfl) ⟨S, t, rfl, rfl⟩ (entY (by omega) rfl)
  · have hs := ne_of_beq_false hs
    refine W.cl [17] (by kernel_rfl) (r_cmp s t) ?_
    rintro _ _ ⟨rfl, rfl⟩
    refine W.d [] 31 (decide (cmpN x.natAbs y.natAbs ≥ 0)) (by kernel_rfl) (fun hc => ?_) (fun hc => ?_)
    · have hc := of_decide_eq_true hc
      have hxy : y.natAbs ≤ x.natAbs := by
        unfold cmpN at hc
        split at hc
        · omega
        · omega
      refine W.cl [31] (by kernel_rfl) (r_less s t hxy) ?_
      rintro _ _ ⟨u, rfl, rfl⟩
      refine W.cl [] (by kernel_rfl) (p_ymade x.sign (x + y) u ?_) ?_
      · rcases sign_cases x with ⟨h, e⟩ | ⟨h, e⟩ | ⟨h, e⟩ <;> rcases sign_cases y with ⟨g, f⟩ | ⟨g, f⟩ | ⟨g, f⟩ <;> rcases sign_cases (x + y) with ⟨k, j⟩ | ⟨k, j⟩ | ⟨k, j⟩ <;> constructor <;> omega
      rintro _ _ ⟨S, t, rfl, rfl⟩
      exact W.r [] (yv S t) (by kernel_rfl) ⟨S, t, rfl, rfl⟩ (entY (by omega) rfl)
    · have hc := of_decide_eq_false hc
      have hxy : x.natAbs < y.natAbs := by
        unfold cmpN at hc
        split at hc
        · assumption
        · split at hc <;> omega
      refine W.cl [31] (by kernel_rfl) (r_less t s (Nat.le_of_lt hxy)) ?_
      rintro _ _ ⟨u, rfl, rfl⟩
      refine W.cl [] (by kernel_rfl) (p_ymade y.sign (x + y) u ?_) ?_
      · rcases sign_cases x with ⟨h, e⟩ | ⟨h, e⟩ | ⟨h, e⟩ <;> rcases sign_cases y with ⟨g, f⟩ | ⟨g, f⟩ | ⟨g, f⟩ <;> rcases sign_cases (x + y) with ⟨k, j⟩ | ⟨k, j⟩ | ⟨k, j⟩ <;> constructor <;> omega
      rintro _ _ ⟨S, t, rfl, rfl⟩
      exact W.r [] (yv S t) (by kernel_rfl) ⟨S, t, rfl, rfl⟩ (entY (by omega) rfl)

theorem sign_wrap (x y : Int) : IntKind.i64.wrap (x.sign * y.sign) = (x * y).sign := by
  rw [← Int.sign_mul]
  rcases sign_cases (x * y) with ⟨h, e⟩ | ⟨h, e⟩ | ⟨h, e⟩ <;> rw [e] <;> rfl

theorem p_ymul (S : Int) (s : Sl) (R : Int) (t : Sl) {x y : Int} [Has (YF S s) (L, x) Γ] [Has (YF R t) (M, y) Γ] (hL : L ≤ 7900000000000 := by omega) (hM : M ≤ 7900000000000 := by omega) :
    PCalls tb Tryz.prog 76 [yv S s, yv R t] Γ (YPost (L + M) (x * y)) := by
  refine PCalls.of_W tbOk Tryz.func76 rfl (by kernel_rfl) ?_
  refine W.yr S s rfl ?_
  rintro rfl h0
  refine W.yr R t rfl ?_
  rintro rfl h0'
  refine W.cl [] (by kernel_rfl) (r_mul s t) ?_
  rintro _ _ ⟨u, rfl, rfl⟩
  refine W.cl [] (by kernel_rfl) (p_ymade (IntKind.i64.wrap (x.sign * y.sign)) (x * y) u ⟨Int.natAbs_mul x y, fun _ => sign_wrap x y⟩) ?_
  rintro _ _ ⟨S2, u2, rfl, rfl⟩
  exact W.r [] (yv S2 u2) (by kernel_rfl) ⟨S2, u2, rfl, rfl⟩ (entY (by omega) rfl)

end

end Go.Proofs.YtlpfkbkpnljieaaGreat

namespace Go.Proofs.YtlpfkbkpnljieaaGreat
open Go.RowKit Go.IntWalk

/-- Does a text begin with '-'? -/
def sneg (s : ByteArray) : Bool := (bs s).head? == some 45
/-- A text behind its '-'. -/
def sdig (s : ByteArray) : ByteArray := if sneg s = true then s.extract 1 s.size else s

theorem sneg_empty {s : ByteArray} (h : s.size = 0) : sneg s = false := by
  have : bs s = [] := List.eq_nil_of_length_eq_zero (by rw [bs_size]; exact h)
  unfold sneg
  rw [this]
  rfl
theorem sneg_head {s : ByteArray} (h : 0 < s.size) : sneg s = ((s[0]'h).toNat == 45) := by
  unfold sneg
  have := bs_dg s 0 h
  rw [List.head?_eq_getElem?, List.getElem?_eq_getElem (by rw [bs_size]; exact h), ← this, dg_of (by rw [bs_size]; exact h)]
  simp
theorem extract_one {s : ByteArray} (h : 0 < s.size) : s.extract 0 1 = ⟨#[s[0]'h]⟩ := by
  obtain ⟨d⟩ := s
  apply ByteArray.ext
  have h' : 0 < d.size := h
  simp only [ByteArray.data_extract]
  apply Array.ext
  · simp; omega
  · intro i h1 h2
    simp at h2
    subst h2
    simp
    rfl
theorem one_list (b : UInt8) : (⟨#[b]⟩ : ByteArray).toList = [b] := by
  rw [ByteArray.toList_eq]
theorem sdig_size (s : ByteArray) : (sdig s).size ≤ s.size := by
  unfold sdig
  split
  · rw [ByteArray.size_extract]; omega
  · exact Nat.le_refl _
theorem sdig_neg {s : ByteArray} (h : sneg s = true) : sdig s = s.extract 1 s.size ∧ 0 < s.size ∧ (sdig s).size + 1 = s.size := by
  have h0 : 0 < s.size := by
    apply Nat.pos_of_ne_zero
    intro e
    rw [sneg_empty e] at h
    simp at h
  have e : sdig s = s.extract 1 s.size := by unfold sdig; rw [if_pos h]
  exact ⟨e, h0, by rw [e, ByteArray.size_extract]; omega⟩
theorem sdig_pos {s : ByteArray} (h : sneg s = false) : sdig s = s := by unfold sdig; rw [if_neg (by simp [h])]

/-- The error of a text. -/
def zperr (s : ByteArray) : Int := if perr (sdig s) = 0 ∧ ¬ (sneg s = true ∧ pval (sdig s) = 0) then 0 else 3
/-- The number of a text. -/
def zval (s : ByteArray) : Int := if zperr s = 0 then (if sneg s = true then -(pval (sdig s) : Int) else (pval (sdig s) : Int)) else 0
instance digsDec (l : List Nat) : Decidable (Digs l) := inferInstanceAs (Decidable (∀ d ∈ l, 48 ≤ d ∧ d ≤ 57))
/-- The error of a text, of whatever length. -/
def zerr (s : ByteArray) : Int := if 4097 < s.size then 2 else if 4096 < (sdig s).size then (if Digs (bs (sdig s)) ∧ (bs (sdig s)).head? ≠ some 48 then 2 else 3) else zperr s

theorem perr_two {D : ByteArray} (h : D.size ≤ 4096) : perr D = 0 ∨ perr D = 3 := by
  by_cases hg : Good (bs D)
  · exact .inl (perr_ok hg).1
  · exact .inr (perr_bad h hg).1
theorem zperr_bad {s : ByteArray} (h : perr (sdig s) ≠ 0) : zperr s = 3 ∧ zval s = 0 := by
  have e : zperr s = 3 := by unfold zperr; rw [if_neg (fun H => h H.1)]
  exact ⟨e, by unfold zval; rw [e]; rfl⟩
theorem zperr_m0 {s : ByteArray} (hn : sneg s = true) (h : pval (sdig s) = 0) : zperr s = 3 ∧ zval s = 0 := by
  have e : zperr s = 3 := by unfold zperr; rw [if_neg (fun H => H.2 ⟨hn, h⟩)]
  exact ⟨e, by unfold zval; rw [e]; rfl⟩
theorem zperr_m {s : ByteArray} (hp : perr (sdig s) = 0) (hn : sneg s = true) (h : 0 < pval (sdig s)) : zperr s = 0 ∧ zval s = -(pval (sdig s) : Int) := by
  have e : zperr s = 0 := by unfold zperr; rw [if_pos ⟨hp, fun H => by omega⟩]
  exact ⟨e, by unfold zval; rw [e, if_pos rfl, if_pos hn]⟩
theorem zperr_p {s : ByteArray} (hp : perr (sdig s) = 0) (hn : sneg s = false) : zperr s = 0 ∧ zval s = (pval (sdig s) : Int) := by
  have e : zperr s = 0 := by unfold zperr; rw [if_pos ⟨hp, fun H => by rw [hn] at H; exact absurd H.1 (by decide)⟩]
  exact ⟨e, by unfold zval; rw [e, if_pos rfl, hn, if_neg (by decide)]⟩
theorem zerr_long {s : ByteArray} (h : 4097 < s.size) : zerr s = 2 ∧ zval s = 0 := by
  have h1 : 4096 < (sdig s).size := by
    cases hn : sneg s with
    | true => have := (sdig_neg hn).2.2; omega
    | false => rw [sdig_pos hn]; omega
  exact ⟨by unfold zerr; rw [if_pos h], (zperr_bad (by rw [(perr_long h1).1]; decide)).2⟩
theorem zerr_short {s : ByteArray} (h : ¬ 4097 < s.size) (h1 : ¬ 4096 < (sdig s).size) : zerr s = zperr s := by unfold zerr; rw [if_neg h, if_neg h1]
theorem zerr_mid {s : ByteArray} (h : ¬ 4097 < s.size) (h1 : 4096 < (sdig s).size) : zval s = 0 ∧ (Digs (bs (sdig s)) → (bs (sdig s)).head? ≠ some 48 → zerr s = 2) ∧ (¬ (Digs (bs (sdig s)) ∧ (bs (sdig s)).head? ≠ some 48) → zerr s = 3) := by
  refine ⟨(zperr_bad (by rw [(perr_long h1).1]; decide)).2, fun a b => ?_, fun a => ?_⟩
  · unfold zerr; rw [if_neg h, if_pos h1, if_pos ⟨a, b⟩]
  · unfold zerr; rw [if_neg h, if_pos h1, if_neg a]

/-- A text's signs are digits from the k-th on if they are so up to it and behind it. -/
theorem digs_of {D : ByteArray} (h : ∀ i (hi : i < D.size), 48 ≤ (D[i]'hi).toNat ∧ (D[i]'hi).toNat ≤ 57) : Digs (bs D) := by
  intro d hd
  obtain ⟨i, hi, rfl⟩ := List.mem_iff_getElem.1 hd
  have hi' : i < D.size := by rwa [bs_size] at hi
  have := bs_dg D i hi'
  rw [dg_of hi] at this
  rw [this]
  exact h i hi'
theorem digs_at {D : ByteArray} (h : Digs (bs D)) (i : Nat) (hi : i < D.size) : 48 ≤ (D[i]'hi).toNat ∧ (D[i]'hi).toNat ≤ 57 := by
  have hl : i < (bs D).length := by rw [bs_size]; exact hi
  have := bs_dg D i hi
  rw [dg_of hl] at this
  rw [← this]
  exact h _ (List.getElem_mem hl)
theorem head_at {D : ByteArray} (h : 0 < D.size) : (bs D).head? = some (D[0]'h).toNat := by
  have hl : 0 < (bs D).length := by rw [bs_size]; exact h
  have := bs_dg D 0 h
  rw [dg_of hl] at this
  rw [List.head?_eq_getElem?, List.getElem?_eq_getElem hl, this]

section
variable {fin : VS → List Fact → Prop} {Γ : List Fact} {L M : Nat}

theorem p_hasPrefix (s : ByteArray) : PCalls tb Tryz.prog 123 [.string s, .string ⟨#[45]⟩] Γ (IsV (.bool (sneg s))) := by
  refine PCalls.of_W tbOk Tryz.func123 rfl (by kernel_rfl) ?_
  by_cases h : 0 < s.size
  · refine W.dt [] 10 (decide ((s.size : Int) ≥ ((1 : Nat) : Int))) (by kernel_rfl) (by rw [decide_eq_true_iff]; omega) ?_
    refine W.sub' [10] s none (some (.int .i64 ((1 : Nat) : Int))) 0 1 tbOk (by kernel_rfl) (.inr ⟨rfl, rfl⟩) (.inl rfl) (by omega) (by omega) ?_
    refine W.r [10] (.bool ((s.extract 0 1).toList == (⟨#[45]⟩ : ByteArray).toList)) (by kernel_rfl) ⟨?_, rfl⟩ ent0
    rw [extract_one h, one_list, one_list, sneg_head h]
    congr 1
    rw [Bool.eq_iff_iff]
    simp only [beq_iff_eq, List.cons.injEq, and_true]
    exact ⟨fun e => by rw [e]; rfl, fun e => UInt8.toNat_inj.1 (by rw [e]; rfl)⟩
  · refine W.df [] 10 (decide ((s.size : Int) ≥ ((1 : Nat) : Int))) (by kernel_rfl) (by rw [decide_eq_false_iff_not]; omega) ?_
    exact W.r [10] (.bool false) (by kernel_rfl) ⟨by rw [sneg_empty (by omega)], rfl⟩ ent0

theorem p_cut0 (s : ByteArray) : PCalls tb Tryz.prog 106 [.string s, .string ⟨#[45]⟩] Γ (IsV (.tuple #[.string (sdig s), .bool (sneg s)])) := by
  refine PCalls.of_W tbOk Tryz.func106 rfl (by kernel_rfl) ?_
  refine W.cl [] (by kernel_rfl) (p_hasPrefix s) ?_
  rintro _ _ ⟨rfl, rfl⟩
  cases hn : sneg s with
  | true =>
    obtain ⟨e, h0, _⟩ := sdig_neg hn
    refine W.sub' [9] s (some (.int .i64 ((1 : Nat) : Int))) none 1 s.size tbOk (by kernel_rfl) (.inl rfl) (.inr ⟨rfl, rfl⟩) (by omega) (by omega) ?_
    exact W.r [] (.tuple #[.string (s.extract 1 s.size), .bool true]) (by kernel_rfl) ⟨by rw [e], rfl⟩ ent0
  | false => exact W.r [9] (.tuple #[.string s, .bool false]) (by kernel_rfl) ⟨by rw [sdig_pos hn], rfl⟩ ent0

theorem p_cut (s : ByteArray) : PCalls tb Tryz.prog 79 [.string s, .string ⟨#[45]⟩] Γ (IsV (.tuple #[.string (sdig s), .bool (sneg s)])) := by
  refine PCalls.of_W tbOk Tryz.func79 rfl (by kernel_rfl) ?_
  refine W.cl [] (by kernel_rfl) (p_cut0 s) ?_
  rintro _ _ ⟨rfl, rfl⟩
  exact W.r [] (.tuple #[.string (sdig s), .bool (sneg s)]) (by kernel_rfl) ⟨rfl, rfl⟩ ent0

def ZPar (s : ByteArray) (v : Value) (Δ : List Fact) : Prop := ∃ (u : Sl) (d : Bool), v = .tuple #[zv u d, .int .i64 (zerr s)] ∧ Δ = [ZF u d (min s.size 4096, zval s)]
def YPar (s : ByteArray) (v : Value) (Δ : List Fact) : Prop := ∃ (S : Int) (u : Sl), v = .tuple #[yv S u, .int .i64 (zerr s)] ∧ Δ = [YF S u (min s.size 4096, zval s)]

theorem p_zparse (s : ByteArray) (h : s.size ≤ 9223372036854775807) : PCalls tb Tryz.prog 48 [.string s] Γ (ZPar s) := by
  refine PCalls.of_W tbOk Tryz.func48 rfl (by kernel_rfl) ?_
  have hD := sdig_size s
  have hend : ∀ {e : Int}, zerr s = e → zval s = 0 → ZPar s (.tuple #[zv ⟨none, 0, 0⟩ false, .int .i64 e]) [ZF ⟨none, 0, 0⟩ false (min s.size 4096, 0)] := fun h1 h2 => ⟨⟨none, 0, 0⟩, false, by rw [h1], by rw [h2]⟩
  by_cases hl : 4097 < s.size
  · refine W.dt [] 11 (decide ((s.size : Int) > 4097)) (by kernel_rfl) (by rw [decide_eq_true_iff]; omega) ?_
    exact W.r [11] (.tuple #[zv ⟨none, 0, 0⟩ false, .int .i64 2]) (by kernel_rfl) (hend (zerr_long hl).1 (zerr_long hl).2) entZnil
  refine W.df [] 11 (decide ((s.size : Int) > 4097)) (by kernel_rfl) (by rw [decide_eq_false_iff_not]; omega) ?_
  refine W.cl [11] (by kernel_rfl) (p_cut s) ?_
  rintro _ _ ⟨rfl, rfl⟩
  refine W.cl [] (by kernel_rfl) (p_parse (sdig s) (by omega)) ?_
  rintro _ _ ⟨u, rfl, rfl⟩
  by_cases hd : 4096 < (sdig s).size
  · obtain ⟨z1, z2, z3⟩ := zerr_mid hl hd
    refine W.dt [] 23 (perr (sdig s) == 2) (by kernel_rfl) (by rw [(perr_long hd).1]; rfl) ?_
    refine W.lp [23] [3, 28] (fun a : Nat × Int => [(3, .int .i64 0), (28, .int .i64 a.2)]) (fun _ => []) (fun _ => []) (fun a => a.2 = a.1 ∧ a.1 ≤ (sdig s).size ∧ ∀ i (hi : i < (sdig s).size), i < a.1 → 48 ≤ ((sdig s)[i]'hi).toNat ∧ ((sdig s)[i]'hi).toNat ≤ 57) (fun a => (sdig s).size - a.1) (0, 0) (by kernel_rfl) (by kernel_rfl) ⟨rfl, Nat.zero_le _, fun _ _ h => absurd h (by omega)⟩ ent0 ?_
    rintro ⟨k, z⟩ R ⟨hz, hk, hdig⟩ close
    simp only at hz hk hdig
    subst hz
    by_cases hks : k < (sdig s).size
    · refine W.dt [] 29 (decide ((k : Int) < ((sdig s).size : Nat))) (by kernel_rfl) (by rw [decide_eq_true_iff]; omega) ?_
      refine W.idx [29] (sdig s) .i64 k (k : Int) rfl tbOk (by kernel_rfl) hks ?_
      by_cases h1 : ((sdig s)[k]'hks).toNat < 48
      · refine W.dt [] 35 (decide (((((sdig s)[k]'hks).toNat : Nat) : Int) < 48)) (by kernel_rfl) (by rw [decide_eq_true_iff]; omega) ?_
        exact W.r [40, 35] (.tuple #[zv ⟨none, 0, 0⟩ false, .int .i64 3]) (by kernel_rfl) (hend (z3 fun H => by have := digs_at H.1 k hks; omega) z1) entZnil
      refine W.df [] 35 (decide (((((sdig s)[k]'hks).toNat : Nat) : Int) < 48)) (by kernel_rfl) (by rw [decide_eq_false_iff_not]; omega) ?_
      refine W.idx [35] (sdig s) .i64 k (k : Int) rfl tbOk (by kernel_rfl) hks ?_
      by_cases h2 : 57 < ((sdig s)[k]'hks).toNat
      · refine W.dt [35] 40 (decide (((((sdig s)[k]'hks).toNat : Nat) : Int) > 57)) (by kernel_rfl) (by rw [decide_eq_true_iff]; omega) ?_
        exact W.r [40] (.tuple #[zv ⟨none, 0, 0⟩ false, .int .i64 3]) (by kernel_rfl) (hend (z3 fun H => by have := digs_at H.1 k hks; omega) z1) entZnil
      refine W.df [35] 40 (decide (((((sdig s)[k]'hks).toNat : Nat) : Int) > 57)) (by kernel_rfl) (by rw [decide_eq_false_iff_not]; omega) ?_
      refine close [40] _ _ (k + 1, IntKind.i64.wrap ((k : Int) + 1)) (by kernel_rfl) (by kernel_rfl) ⟨by rw [i64_in _ (by omega)]; rfl, by simp only; omega, fun i hi hik => ?_⟩ (by simp only; omega) ent0
      simp only at hik
      by_cases hik' : i < k
      · exact hdig i hi hik'
      · obtain rfl : i = k := by omega
        omega
    · obtain rfl : k = (sdig s).size := by omega
      refine W.df [] 29 (decide ((((sdig s).size : Nat) : Int) < ((sdig s).size : Nat))) (by kernel_rfl) (by rw [decide_eq_false_iff_not]; omega) ?_
      have hdig' := digs_of (fun i hi => hdig i hi hi)
      have h0 : 0 < (sdig s).size := by omega
      have hh := head_at h0
      refine W.idx [29] (sdig s) .i64 0 0 rfl tbOk (by kernel_rfl) h0 ?_
      by_cases h48 : ((sdig s)[0]'h0).toNat = 48
      · refine W.dt [] 45 (((((sdig s)[0]'h0).toNat : Nat) : Int) == 48) (by kernel_rfl) (by rw [beq_iff_eq]; omega) ?_
        exact W.r [45] (.tuple #[zv ⟨none, 0, 0⟩ false, .int .i64 3]) (by kernel_rfl) (hend (z3 fun H => H.2 (by rw [hh, h48])) z1) entZnil
      · refine W.df [] 45 (((((sdig s)[0]'h0).toNat : Nat) : Int) == 48) (by kernel_rfl) (by rw [beq_eq_false_iff_ne]; omega) ?_
        exact W.r [45] (.tuple #[zv ⟨none, 0, 0⟩ false, .int .i64 (perr (sdig s))]) (by kernel_rfl) (hend (by rw [(perr_long hd).1]; exact z2 hdig' (by rw [hh]; simpa using h48)) z1) entZnil
  · have hz := zerr_short hl hd
    rcases perr_two (D := sdig s) (by omega) with hp | hp
    · refine W.df [] 23 (perr (sdig s) == 2) (by kernel_rfl) (by rw [hp]; rfl) ?_
      refine W.df [23] 49 (perr (sdig s) != 0) (by kernel_rfl) (by rw [hp]; rfl) ?_
      cases hn : sneg s with
      | true =>
        refine W.cl [49, 56] (by kernel_rfl) (p_bits u) ?_
        rintro _ _ ⟨rfl, rfl⟩
        have hb := bl_zero (pval (sdig s))
        by_cases h0 : pval (sdig s) = 0
        · refine W.dt [49, 56] 54 (((bl (pval (sdig s)) : Nat) : Int) == 0) (by kernel_rfl) (by rw [beq_iff_eq]; omega) ?_
          exact W.r [54, 49, 56] (.tuple #[zv ⟨none, 0, 0⟩ false, .int .i64 3]) (by kernel_rfl) (hend (by rw [hz]; exact (zperr_m0 hn h0).1) (zperr_m0 hn h0).2) entZnil
        · refine W.df [49, 56] 54 (((bl (pval (sdig s)) : Nat) : Int) == 0) (by kernel_rfl) (by rw [beq_eq_false_iff_ne]; omega) ?_
          refine W.cl [54, 49, 56] (by kernel_rfl) (p_made u true) ?_
          rintro _ _ ⟨u2, d2, rfl, rfl⟩
          obtain ⟨e1, e2⟩ := zperr_m hp hn (by omega)
          exact W.r [] (.tuple #[zv u2 d2, .int .i64 0]) (by kernel_rfl) ⟨u2, d2, by rw [hz, e1], rfl⟩ (entZ (by omega) (by rw [e2]; rfl))
      | false =>
        refine W.cl [54, 49, 56] (by kernel_rfl) (p_made u false) ?_
        rintro _ _ ⟨u2, d2, rfl, rfl⟩
        obtain ⟨e1, e2⟩ := zperr_p hp hn
        exact W.r [] (.tuple #[zv u2 d2, .int .i64 0]) (by kernel_rfl) ⟨u2, d2, by rw [hz, e1], rfl⟩ (entZ (by omega) (by rw [e2]; rfl))
    · have hb := zperr_bad (s := s) (by rw [hp]; decide)
      refine W.df [] 23 (perr (sdig s) == 2) (by kernel_rfl) (by rw [hp]; rfl) ?_
      refine W.dt [23] 49 (perr (sdig s) != 0) (by kernel_rfl) (by rw [hp]; rfl) ?_
      exact W.r [49] (.tuple #[zv ⟨none, 0, 0⟩ false, .int .i64 (perr (sdig s))]) (by kernel_rfl) (hend (by rw [hz, hp]; exact hb.1) hb.2) entZnil
end

end Go.Proofs.YtlpfkbkpnljieaaGreat

namespace Go.Proofs.YtlpfkbkpnljieaaGreat
open Go.RowKit Go.IntWalk

theorem one_zero {D : ByteArray} (h : D.size = 1) (hz : (D[0]'(by omega)).toNat = 48) : Good (bs D) ∧ dval (bs D) = 0 := by
  have e : bs D = [48] := by
    apply List.ext_getElem
    · rw [bs_size, h]; rfl
    · intro i h1 h2
      have hi : i = 0 := by rw [bs_size, h] at h1; omega
      subst hi
      have := bs_dg D 0 (by omega)
      rw [dg_of h1] at this
      rw [this, hz]
      rfl
  rw [e]
  refine ⟨⟨by simp, by simp, fun d hd => by simp at hd; omega, fun h => by simp at h⟩, rfl⟩
theorem head_pos {D : ByteArray} (hg : Good (bs D)) (hd : 0 < D.size) (hz : (bs D).head? ≠ some 48) : 0 < dval (bs D) := by
  obtain ⟨a, l, hl⟩ : ∃ a l, bs D = a :: l := by
    cases hb : bs D with
    | nil => exact absurd hb hg.1
    | cons a l => exact ⟨a, l, rfl⟩
  have hd' := hg.2.2.1 a (by rw [hl]; simp)
  rw [hl] at hz
  simp at hz
  exact dval_pos (by omega) l hl

/-- A text's form. -/
def Shape (s : ByteArray) : Prop := 0 < (sdig s).size ∧ Digs (bs (sdig s)) ∧ ((bs (sdig s)).head? = some 48 → (sdig s).size = 1 ∧ sneg s = false)

theorem zerr3 {s : ByteArray} (h : ¬ 4097 < s.size) (hs : ¬ Shape s) : zerr s = 3 ∧ zval s = 0 := by
  by_cases hd : 4096 < (sdig s).size
  · obtain ⟨z1, z2, z3⟩ := zerr_mid h hd
    exact ⟨z3 fun H => hs ⟨by omega, H.1, fun hh => absurd hh H.2⟩, z1⟩
  · rw [zerr_short h hd]
    by_cases hg : Good (bs (sdig s))
    · have h0 : 0 < (sdig s).size := by
        have := List.length_pos_iff.2 hg.1
        rwa [bs_size] at this
      have hh : (bs (sdig s)).head? = some 48 ∧ ¬ ((sdig s).size = 1 ∧ sneg s = false) := by
        by_cases h48 : (bs (sdig s)).head? = some 48
        · exact ⟨h48, fun h1 => hs ⟨h0, hg.2.2.1, fun _ => h1⟩⟩
        · exact absurd ⟨h0, hg.2.2.1, fun h => absurd h h48⟩ hs
      have h1 : (sdig s).size = 1 := by
        apply Nat.le_antisymm _ h0
        apply Nat.le_of_not_lt
        intro hlt
        exact hg.2.2.2 (by rw [bs_size]; exact hlt) hh.1
      have hn : sneg s = true := by
        cases hn : sneg s with
        | true => rfl
        | false => exact absurd ⟨h1, hn⟩ hh.2
      have hz : ((sdig s)[0]'h0).toNat = 48 := by
        have := hh.1
        rw [head_at h0] at this
        simpa using this
      obtain ⟨_, hv⟩ := one_zero h1 hz
      exact zperr_m0 hn (by rw [(perr_ok hg).2]; exact hv)
    · exact zperr_bad (by rw [(perr_bad (by omega) hg).1]; decide)
theorem shape_good {s : ByteArray} (hd : (sdig s).size ≤ 4096) (hs : Shape s) : Good (bs (sdig s)) := by
  refine ⟨fun h => ?_, by rw [bs_size]; exact hd, hs.2.1, fun h1 h2 => ?_⟩
  · have := bs_size (sdig s)
    rw [h] at this
    have h0 := hs.1
    simp at this
    omega
  · have := (hs.2.2 h2).1
    rw [bs_size] at h1
    omega
theorem zerr0 {s : ByteArray} (h : ¬ 4097 < s.size) (hd : (sdig s).size ≤ 4096) (hs : Shape s) : zerr s = 0 ∧ perr (sdig s) = 0 ∧ zval s = (if sneg s = true then -(pval (sdig s) : Int) else (pval (sdig s) : Int)) ∧ (sneg s = true → 0 < pval (sdig s)) := by
  have hg := shape_good hd hs
  obtain ⟨p1, p2⟩ := perr_ok hg
  have hpos : sneg s = true → 0 < pval (sdig s) := fun hn => by
    rw [p2]
    exact head_pos hg hs.1 fun h48 => by rw [(hs.2.2 h48).2] at hn; simp at hn
  rw [zerr_short h (by omega)]
  cases hn : sneg s with
  | true => obtain ⟨a, b⟩ := zperr_m p1 hn (hpos hn); exact ⟨a, p1, by rw [b]; rfl, fun _ => hpos hn⟩
  | false => obtain ⟨a, b⟩ := zperr_p p1 hn; exact ⟨a, p1, by rw [b]; rfl, fun h => by simp at h⟩
theorem zerr2 {s : ByteArray} (h : ¬ 4097 < s.size) (hd : 4096 < (sdig s).size) (hs : Shape s) : zerr s = 2 ∧ zval s = 0 ∧ perr (sdig s) = 2 := by
  obtain ⟨z1, z2, z3⟩ := zerr_mid h hd
  exact ⟨z2 hs.2.1 fun h48 => by have := (hs.2.2 h48).1; omega, z1, (perr_long hd).1⟩

section
variable {fin : VS → List Fact → Prop} {Γ : List Fact} {L M : Nat}

set_option maxHeartbeats 1000000 in
theorem p_yparse (s : ByteArray) (h : s.size ≤ 9223372036854775807) : PCalls tb Tryz.prog 52 [.string s] Γ (YPar s) := by
  refine PCalls.of_W tbOk Tryz.func52 rfl (by kernel_rfl) ?_
  have hD := sdig_size s
  have hend : ∀ {e : Int}, zerr s = e → zval s = 0 → YPar s (.tuple #[yv 0 ⟨none, 0, 0⟩, .int .i64 e]) [YF 0 ⟨none, 0, 0⟩ (min s.size 4096, 0)] := fun h1 h2 => ⟨0, ⟨none, 0, 0⟩, by rw [h1], by rw [h2]⟩
  by_cases hl : 4097 < s.size
  · refine W.dt [] 11 (decide ((s.size : Int) > 4097)) (by kernel_rfl) (by rw [decide_eq_true_iff]; omega) ?_
    exact W.r [11] (.tuple #[yv 0 ⟨none, 0, 0⟩, .int .i64 2]) (by kernel_rfl) (hend (zerr_long hl).1 (zerr_long hl).2) entYnil
  refine W.df [] 11 (decide ((s.size : Int) > 4097)) (by kernel_rfl) (by rw [decide_eq_false_iff_not]; omega) ?_
  by_cases hs0 : 0 < s.size
  · refine W.dt [11] 17 (decide ((s.size : Int) > 0)) (by kernel_rfl) (by rw [decide_eq_true_iff]; omega) ?_
    refine W.idx [17] s .i64 0 0 rfl tbOk (by kernel_rfl) hs0 ?_
    have hhd := sneg_head hs0
    cases hn : sneg s with
    | true =>
      rw [hn] at hhd
      have hhd := eq_of_beq hhd.symm
      obtain ⟨e, _, he1⟩ := sdig_neg hn
      refine W.dt [17] 21 ((((s[0]'hs0).toNat : Nat) : Int) == 45) (by kernel_rfl) (by rw [beq_iff_eq]; omega) ?_
      refine W.sub' [21] s (some (.int .i64 ((1 : Nat) : Int))) none 1 s.size tbOk (by kernel_rfl) (.inl rfl) (.inr ⟨rfl, rfl⟩) (by omega) (by omega) ?_
      generalize s.extract 1 s.size = D at *
      have hDs := congrArg ByteArray.size e
      by_cases h0 : 0 < D.size
      · refine W.df [] 27 (((D.size : Nat) : Int) == 0) (by kernel_rfl) (by rw [beq_eq_false_iff_ne]; omega) ?_
        refine W.idx [27] D .i64 0 0 rfl tbOk (by kernel_rfl) h0 ?_
        have hh := head_at h0
        by_cases h48 : (D[0]'h0).toNat = 48
        · refine W.dt [27] 31 ((((D[0]'h0).toNat : Nat) : Int) == 48) (by kernel_rfl) (by rw [beq_iff_eq]; omega) ?_
          have hns : ¬ Shape s := fun H => by rw [Shape, e, hn] at H; have := (H.2.2 (by rw [hh, h48])).2; simp at this
          by_cases h1 : 1 < D.size
          · refine W.dt [31] 35 (decide (((D.size : Nat) : Int) > 1)) (by kernel_rfl) (by rw [decide_eq_true_iff]; omega) ?_
            exact W.r [40, 27, 31, 35] (.tuple #[yv 0 ⟨none, 0, 0⟩, .int .i64 3]) (by kernel_rfl) (hend (zerr3 hl hns).1 (zerr3 hl hns).2) entYnil
          · refine W.df [31] 35 (decide (((D.size : Nat) : Int) > 1)) (by kernel_rfl) (by rw [decide_eq_false_iff_not]; omega) ?_
            exact W.r [40, 27, 31, 35] (.tuple #[yv 0 ⟨none, 0, 0⟩, .int .i64 3]) (by kernel_rfl) (hend (zerr3 hl hns).1 (zerr3 hl hns).2) entYnil
        · refine W.df [27] 31 ((((D[0]'h0).toNat : Nat) : Int) == 48) (by kernel_rfl) (by rw [beq_eq_false_iff_ne]; omega) ?_
          refine W.lp [40, 27, 35, 31] [3, 6] (fun a : Nat × Int => [(3, .int .i64 0), (6, .int .i64 a.2)]) (fun _ => []) (fun _ => []) (fun a => a.2 = a.1 ∧ a.1 ≤ D.size ∧ ∀ i (hi : i < D.size), i < a.1 → 48 ≤ (D[i]'hi).toNat ∧ (D[i]'hi).toNat ≤ 57) (fun a => D.size - a.1) (0, 0) (by kernel_rfl) (by kernel_rfl) ⟨rfl, Nat.zero_le _, fun _ _ h => absurd h (by omega)⟩ ent0 ?_
          rintro ⟨k, z⟩ R ⟨hz, hk, hdig⟩ close
          simp only at hz hk hdig
          subst hz
          by_cases hks : k < D.size
          · refine W.dt [] 45 (decide ((k : Int) < (D.size : Nat))) (by kernel_rfl) (by rw [decide_eq_true_iff]; omega) ?_
            refine W.idx [45] D .i64 k (k : Int) rfl tbOk (by kernel_rfl) hks ?_
            by_cases h1 : (D[k]'hks).toNat < 48
            · refine W.dt [] 52 (decide ((((D[k]'hks).toNat : Nat) : Int) < 48)) (by kernel_rfl) (by rw [decide_eq_true_iff]; omega) ?_
              exact W.r [57, 52] (.tuple #[yv 0 ⟨none, 0, 0⟩, .int .i64 3]) (by kernel_rfl) (hend (zerr3 hl (fun H => by rw [Shape, e] at H; have := digs_at H.2.1 k hks; omega)).1 (zerr3 hl (fun H => by rw [Shape, e] at H; have := digs_at H.2.1 k hks; omega)).2) entYnil
            refine W.df [] 52 (decide ((((D[k]'hks).toNat : Nat) : Int) < 48)) (by kernel_rfl) (by rw [decide_eq_false_iff_not]; omega) ?_
            refine W.idx [52] D .i64 k (k : Int) rfl tbOk (by kernel_rfl) hks ?_
            by_cases h2 : 57 < (D[k]'hks).toNat
            · refine W.dt [52] 57 (decide ((((D[k]'hks).toNat : Nat) : Int) > 57)) (by kernel_rfl) (by rw [decide_eq_true_iff]; omega) ?_
              exact W.r [57] (.tuple #[yv 0 ⟨none, 0, 0⟩, .int .i64 3]) (by kernel_rfl) (hend (zerr3 hl (fun H => by rw [Shape, e] at H; have := digs_at H.2.1 k hks; omega)).1 (zerr3 hl (fun H => by rw [Shape, e] at H; have := digs_at H.2.1 k hks; omega)).2) entYnil
            refine W.df [52] 57 (decide ((((D[k]'hks).toNat : Nat) : Int) > 57)) (by kernel_rfl) (by rw [decide_eq_false_iff_not]; omega) ?_
            refine close [57] _ _ (k + 1, IntKind.i64.wrap ((k : Int) + 1)) (by kernel_rfl) (by kernel_rfl) ⟨by rw [i64_in _ (by omega)]; rfl, by simp only; omega, fun i hi hik => ?_⟩ (by simp only; omega) ent0
            simp only at hik
            by_cases hik' : i < k
            · exact hdig i hi hik'
            · obtain rfl : i = k := by omega
              omega
          · obtain rfl : k = D.size := by omega
            refine W.df [] 45 (decide (((D.size : Nat) : Int) < (D.size : Nat))) (by kernel_rfl) (by rw [decide_eq_false_iff_not]; omega) ?_
            have hsh : Shape s := by
              rw [Shape, e]
              exact ⟨h0, digs_of (fun i hi => hdig i hi hi), fun H => absurd H (by rw [hh]; simpa using h48)⟩
            refine W.cl [45] (by kernel_rfl) (r_parse D (by rw [← e]; omega)) ?_
            rintro _ _ ⟨u, rfl, rfl⟩
            by_cases hd : 4096 < (sdig s).size
            · obtain ⟨a1, a2, a3⟩ := zerr2 hl hd hsh
              rw [e] at a3
              refine W.dt [] 65 (perr D != 0) (by kernel_rfl) (by rw [a3]; rfl) ?_
              exact W.r [65] (.tuple #[yv 0 ⟨none, 0, 0⟩, .int .i64 (perr D)]) (by kernel_rfl) (hend (by rw [a3]; exact a1) a2) entYnil
            · obtain ⟨a1, a2, a3, a4⟩ := zerr0 hl (by omega) hsh
              rw [hn, e] at a3
              rw [hn, e] at a4
              rw [e] at a2
              refine W.df [] 65 (perr D != 0) (by kernel_rfl) (by rw [a2]; rfl) ?_
              have e2 := congrArg ByteArray.size e
              refine W.cl [65] (by kernel_rfl) (p_ymade (-1) (zval s) u ⟨by rw [a3]; simp, fun hne => ?_⟩) ?_
              · rw [a3]
                rw [if_pos rfl, Int.sign_eq_neg_one_of_neg (by have := a4 rfl; omega)]
              rintro _ _ ⟨S2, u2, rfl, rfl⟩
              exact W.r [] (.tuple #[yv S2 u2, .int .i64 0]) (by kernel_rfl) ⟨S2, u2, by rw [a1], rfl⟩ (entY (by omega) rfl)
      · refine W.dt [] 27 (((D.size : Nat) : Int) == 0) (by kernel_rfl) (by rw [beq_iff_eq]; omega) ?_
        have hns : ¬ Shape s := fun H => by rw [Shape, e] at H; exact h0 H.1
        exact W.r [40, 35, 31, 27] (.tuple #[yv 0 ⟨none, 0, 0⟩, .int .i64 3]) (by kernel_rfl) (hend (zerr3 hl hns).1 (zerr3 hl hns).2) entYnil
    | false =>
      rw [hn] at hhd
      have hhd := ne_of_beq_false hhd.symm
      have e := sdig_pos hn
      refine W.df [17] 21 ((((s[0]'hs0).toNat : Nat) : Int) == 45) (by kernel_rfl) (by rw [beq_eq_false_iff_ne]; omega) ?_
      by_cases h0 : 0 < s.size
      · refine W.df [21] 27 (((s.size : Nat) : Int) == 0) (by kernel_rfl) (by rw [beq_eq_false_iff_ne]; omega) ?_
        refine W.idx [27] s .i64 0 0 rfl tbOk (by kernel_rfl) h0 ?_
        have hh := head_at h0
        by_cases h48 : (s[0]'h0).toNat = 48
        · refine W.dt [27] 31 ((((s[0]'h0).toNat : Nat) : Int) == 48) (by kernel_rfl) (by rw [beq_iff_eq]; omega) ?_
          by_cases h1 : 1 < s.size
          · refine W.dt [31] 35 (decide (((s.size : Nat) : Int) > 1)) (by kernel_rfl) (by rw [decide_eq_true_iff]; omega) ?_
            have hns : ¬ Shape s := fun H => by rw [Shape, e] at H; have := (H.2.2 (by rw [hh, h48])).1; omega
            exact W.r [40, 27, 31, 35] (.tuple #[yv 0 ⟨none, 0, 0⟩, .int .i64 3]) (by kernel_rfl) (hend (zerr3 hl hns).1 (zerr3 hl hns).2) entYnil
          · refine W.df [31] 35 (decide (((s.size : Nat) : Int) > 1)) (by kernel_rfl) (by rw [decide_eq_false_iff_not]; omega) ?_
            refine W.lp [40, 27, 31, 35] [3, 6] (fun a : Nat × Int => [(3, .int .i64 0), (6, .int .i64 a.2)]) (fun _ => []) (fun _ => []) (fun a => a.2 = a.1 ∧ a.1 ≤ s.size ∧ ∀ i (hi : i < s.size), i < a.1 → 48 ≤ (s[i]'hi).toNat ∧ (s[i]'hi).toNat ≤ 57) (fun a => s.size - a.1) (0, 0) (by kernel_rfl) (by kernel_rfl) ⟨rfl, Nat.zero_le _, fun _ _ h => absurd h (by omega)⟩ ent0 ?_
            rintro ⟨k, z⟩ R ⟨hz, hk, hdig⟩ close
            simp only at hz hk hdig
            subst hz
            by_cases hks : k < s.size
            · refine W.dt [] 45 (decide ((k : Int) < (s.size : Nat))) (by kernel_rfl) (by rw [decide_eq_true_iff]; omega) ?_
              refine W.idx [45] s .i64 k (k : Int) rfl tbOk (by kernel_rfl) hks ?_
              by_cases h1 : (s[k]'hks).toNat < 48
              · refine W.dt [] 52 (decide ((((s[k]'hks).toNat : Nat) : Int) < 48)) (by kernel_rfl) (by rw [decide_eq_true_iff]; omega) ?_
                exact W.r [57, 52] (.tuple #[yv 0 ⟨none, 0, 0⟩, .int .i64 3]) (by kernel_rfl) (hend (zerr3 hl (fun H => by rw [Shape, e] at H; have := digs_at H.2.1 k hks; omega)).1 (zerr3 hl (fun H => by rw [Shape, e] at H; have := digs_at H.2.1 k hks; omega)).2) entYnil
              refine W.df [] 52 (decide ((((s[k]'hks).toNat : Nat) : Int) < 48)) (by kernel_rfl) (by rw [decide_eq_false_iff_not]; omega) ?_
              refine W.idx [52] s .i64 k (k : Int) rfl tbOk (by kernel_rfl) hks ?_
              by_cases h2 : 57 < (s[k]'hks).toNat
              · refine W.dt [52] 57 (decide ((((s[k]'hks).toNat : Nat) : Int) > 57)) (by kernel_rfl) (by rw [decide_eq_true_iff]; omega) ?_
                exact W.r [57] (.tuple #[yv 0 ⟨none, 0, 0⟩, .int .i64 3]) (by kernel_rfl) (hend (zerr3 hl (fun H => by rw [Shape, e] at H; have := digs_at H.2.1 k hks; omega)).1 (zerr3 hl (fun H => by rw [Shape, e] at H; have := digs_at H.2.1 k hks; omega)).2) entYnil
              refine W.df [52] 57 (decide ((((s[k]'hks).toNat : Nat) : Int) > 57)) (by kernel_rfl) (by rw [decide_eq_false_iff_not]; omega) ?_
              refine close [57] _ _ (k + 1, IntKind.i64.wrap ((k : Int) + 1)) (by kernel_rfl) (by kernel_rfl) ⟨by rw [i64_in _ (by omega)]; rfl, by simp only; omega, fun i hi hik => ?_⟩ (by simp only; omega) ent0
              simp only at hik
              by_cases hik' : i < k
              · exact hdig i hi hik'
              · obtain rfl : i = k := by omega
                omega
            · obtain rfl : k = s.size := by omega
              refine W.df [] 45 (decide (((s.size : Nat) : Int) < (s.size : Nat))) (by kernel_rfl) (by rw [decide_eq_false_iff_not]; omega) ?_
              have hsh : Shape s := by
                rw [Shape, e]
                exact ⟨h0, digs_of (fun i hi => hdig i hi hi), fun _ => ⟨by omega, hn⟩⟩
              refine W.cl [45] (by kernel_rfl) (r_parse s (by rw [← e]; omega)) ?_
              rintro _ _ ⟨u, rfl, rfl⟩
              by_cases hd : 4096 < (sdig s).size
              · obtain ⟨a1, a2, a3⟩ := zerr2 hl hd hsh
                rw [e] at a3
                refine W.dt [] 65 (perr s != 0) (by kernel_rfl) (by rw [a3]; rfl) ?_
                exact W.r [65] (.tuple #[yv 0 ⟨none, 0, 0⟩, .int .i64 (perr s)]) (by kernel_rfl) (hend (by rw [a3]; exact a1) a2) entYnil
              · obtain ⟨a1, a2, a3, a4⟩ := zerr0 hl (by omega) hsh
                rw [hn, e] at a3
                rw [hn, e] at a4
                rw [e] at a2
                refine W.df [] 65 (perr s != 0) (by kernel_rfl) (by rw [a2]; rfl) ?_
                have e2 := congrArg ByteArray.size e
                refine W.cl [65] (by kernel_rfl) (p_ymade (1) (zval s) u ⟨by rw [a3]; simp, fun hne => ?_⟩) ?_
                · rw [a3]
                  rw [if_neg (by simp), Int.sign_eq_one_of_pos (by omega)]
                rintro _ _ ⟨S2, u2, rfl, rfl⟩
                exact W.r [] (.tuple #[yv S2 u2, .int .i64 0]) (by kernel_rfl) ⟨S2, u2, by rw [a1], rfl⟩ (entY (by omega) rfl)
        · refine W.df [27] 31 ((((s[0]'h0).toNat : Nat) : Int) == 48) (by kernel_rfl) (by rw [beq_eq_false_iff_ne]; omega) ?_
          refine W.lp [40, 27, 35, 31] [3, 6] (fun a : Nat × Int => [(3, .int .i64 0), (6, .int .i64 a.2)]) (fun _ => []) (fun _ => []) (fun a => a.2 = a.1 ∧ a.1 ≤ s.size ∧ ∀ i (hi : i < s.size), i < a.1 → 48 ≤ (s[i]'hi).toNat ∧ (s[i]'hi).toNat ≤ 57) (fun a => s.size - a.1) (0, 0) (by kernel_rfl) (by kernel_rfl) ⟨rfl, Nat.zero_le _, fun _ _ h => absurd h (by omega)⟩ ent0 ?_
          rintro ⟨k, z⟩ R ⟨hz, hk, hdig⟩ close
          simp only at hz hk hdig
          subst hz
          by_cases hks : k < s.size
          · refine W.dt [] 45 (decide ((k : Int) < (s.size : Nat))) (by kernel_rfl) (by rw [decide_eq_true_iff]; omega) ?_
            refine W.idx [45] s .i64 k (k : Int) rfl tbOk (by kernel_rfl) hks ?_
            by_cases h1 : (s[k]'hks).toNat < 48
            · refine W.dt [] 52 (decide ((((s[k]'hks).toNat : Nat) : Int) < 48)) (by kernel_rfl) (by rw [decide_eq_true_iff]; omega) ?_
              exact W.r [57, 52] (.tuple #[yv 0 ⟨none, 0, 0⟩, .int .i64 3]) (by kernel_rfl) (hend (zerr3 hl (fun H => by rw [Shape, e] at H; have := digs_at H.2.1 k hks; omega)).1 (zerr3 hl (fun H => by rw [Shape, e] at H; have := digs_at H.2.1 k hks; omega)).2) entYnil
            refine W.df [] 52 (decide ((((s[k]'hks).toNat : Nat) : Int) < 48)) (by kernel_rfl) (by rw [decide_eq_false_iff_not]; omega) ?_
            refine W.idx [52] s .i64 k (k : Int) rfl tbOk (by kernel_rfl) hks ?_
            by_cases h2 : 57 < (s[k]'hks).toNat
            · refine W.dt [52] 57 (decide ((((s[k]'hks).toNat : Nat) : Int) > 57)) (by kernel_rfl) (by rw [decide_eq_true_iff]; omega) ?_
              exact W.r [57] (.tuple #[yv 0 ⟨none, 0, 0⟩, .int .i64 3]) (by kernel_rfl) (hend (zerr3 hl (fun H => by rw [Shape, e] at H; have := digs_at H.2.1 k hks; omega)).1 (zerr3 hl (fun H => by rw [Shape, e] at H; have := digs_at H.2.1 k hks; omega)).2) entYnil
            refine W.df [52] 57 (decide ((((s[k]'hks).toNat : Nat) : Int) > 57)) (by kernel_rfl) (by rw [decide_eq_false_iff_not]; omega) ?_
            refine close [57] _ _ (k + 1, IntKind.i64.wrap ((k : Int) + 1)) (by kernel_rfl) (by kernel_rfl) ⟨by rw [i64_in _ (by omega)]; rfl, by simp only; omega, fun i hi hik => ?_⟩ (by simp only; omega) ent0
            simp only at hik
            by_cases hik' : i < k
            · exact hdig i hi hik'
            · obtain rfl : i = k := by omega
              omega
          · obtain rfl : k = s.size := by omega
            refine W.df [] 45 (decide (((s.size : Nat) : Int) < (s.size : Nat))) (by kernel_rfl) (by rw [decide_eq_false_iff_not]; omega) ?_
            have hsh : Shape s := by
              rw [Shape, e]
              exact ⟨h0, digs_of (fun i hi => hdig i hi hi), fun H => absurd H (by rw [hh]; simpa using h48)⟩
            refine W.cl [45] (by kernel_rfl) (r_parse s (by rw [← e]; omega)) ?_
            rintro _ _ ⟨u, rfl, rfl⟩
            by_cases hd : 4096 < (sdig s).size
            · obtain ⟨a1, a2, a3⟩ := zerr2 hl hd hsh
              rw [e] at a3
              refine W.dt [] 65 (perr s != 0) (by kernel_rfl) (by rw [a3]; rfl) ?_
              exact W.r [65] (.tuple #[yv 0 ⟨none, 0, 0⟩, .int .i64 (perr s)]) (by kernel_rfl) (hend (by rw [a3]; exact a1) a2) entYnil
            · obtain ⟨a1, a2, a3, a4⟩ := zerr0 hl (by omega) hsh
              rw [hn, e] at a3
              rw [hn, e] at a4
              rw [e] at a2
              refine W.df [] 65 (perr s != 0) (by kernel_rfl) (by rw [a2]; rfl) ?_
              have e2 := congrArg ByteArray.size e
              refine W.cl [65] (by kernel_rfl) (p_ymade (1) (zval s) u ⟨by rw [a3]; simp, fun hne => ?_⟩) ?_
              · rw [a3]
                rw [if_neg (by simp), Int.sign_eq_one_of_pos (by omega)]
              rintro _ _ ⟨S2, u2, rfl, rfl⟩
              exact W.r [] (.tuple #[yv S2 u2, .int .i64 0]) (by kernel_rfl) ⟨S2, u2, by rw [a1], rfl⟩ (entY (by omega) rfl)
      · refine W.dt [21] 27 (((s.size : Nat) : Int) == 0) (by kernel_rfl) (by rw [beq_iff_eq]; omega) ?_
        have hns : ¬ Shape s := fun H => by rw [Shape, e] at H; exact h0 H.1
        exact W.r [40, 35, 31, 27] (.tuple #[yv 0 ⟨none, 0, 0⟩, .int .i64 3]) (by kernel_rfl) (hend (zerr3 hl hns).1 (zerr3 hl hns).2) entYnil
  · refine W.df [11] 17 (decide ((s.size : Int) > 0)) (by kernel_rfl) (by rw [decide_eq_false_iff_not]; omega) ?_
    refine W.dt [21, 17] 27 (((s.size : Nat) : Int) == 0) (by kernel_rfl) (by rw [beq_iff_eq]; omega) ?_
    have hns : ¬ Shape s := fun H => by have := H.1; omega
    exact W.r [40, 35, 31, 27] (.tuple #[yv 0 ⟨none, 0, 0⟩, .int .i64 3]) (by kernel_rfl) (hend (zerr3 hl hns).1 (zerr3 hl hns).2) entYnil
end

end Go.Proofs.YtlpfkbkpnljieaaGreat

namespace Go.Proofs.YtlpfkbkpnljieaaGreat
open Go.RowKit Go.IntWalk

section
variable {fin : VS → List Fact → Prop} {Γ : List Fact} {L M : Nat}

/-- Does an int hold it? -/
def small (x : Int) : Bool := decide (-9223372036854775808 ≤ x) && decide (x ≤ 9223372036854775807)

theorem p_zsmall (s : Sl) (b : Bool) {x : Int} [Has (ZF s b) (L, x) Γ] (hL : L ≤ 1000000000000 := by omega) : PCalls tb Tryz.prog 59 [zv s b] Γ (IsV (.tuple #[.int .i64 (if small x = true then x else 0), .bool (small x)])) := by
  refine PCalls.of_W tbOk Tryz.func59 rfl (by kernel_rfl) ?_
  refine W.zn s b rfl ?_
  rintro rfl
  by_cases hw : 18446744073709551616 ≤ x.natAbs
  · have hs : small x = false := by unfold small; simp only [Bool.and_eq_false_iff, decide_eq_false_iff_not]; omega
    refine W.cl [] (by kernel_rfl) (p_word_big s hw) ?_
    rintro _ _ ⟨rfl, rfl⟩
    exact W.r [12] (.tuple #[.int .i64 0, .bool false]) (by kernel_rfl) ⟨by rw [hs]; rfl, rfl⟩ ent0
  · refine W.cl [] (by kernel_rfl) (p_word_small s (by omega)) ?_
    rintro _ _ ⟨rfl, rfl⟩
    by_cases hx : x < 0
    · refine W.dt [12] 18 (decide (x < 0)) (by kernel_rfl) (decide_eq_true hx) ?_
      by_cases hb : x.natAbs ≤ 9223372036854775808
      · have hs : small x = true := by unfold small; simp only [Bool.and_eq_true, decide_eq_true_eq]; omega
        refine W.dt [18] 15 (decide (((x.natAbs : Nat) : Int) ≤ 9223372036854775808)) (by kernel_rfl) (by rw [decide_eq_true_iff]; omega) ?_
        refine W.r [15] (.tuple #[.int .i64 (IntKind.i64.wrap (IntKind.i64.wrap (0 - IntKind.i64.wrap (IntKind.u64.wrap (((x.natAbs : Nat) : Int) - 1))) - 1)), .bool true]) (by kernel_rfl) ⟨?_, rfl⟩ ent0
        rw [hs, if_pos rfl, u64_in _ (by omega), i64_in (((x.natAbs : Nat) : Int) - 1) (by omega), i64_in (0 - (((x.natAbs : Nat) : Int) - 1)) (by omega), i64_in _ (by omega)]
        rw [show (0 : Int) - (((x.natAbs : Nat) : Int) - 1) - 1 = x by omega]
      · have hs : small x = false := by unfold small; simp only [Bool.and_eq_false_iff, decide_eq_false_iff_not]; omega
        refine W.df [18] 15 (decide (((x.natAbs : Nat) : Int) ≤ 9223372036854775808)) (by kernel_rfl) (by rw [decide_eq_false_iff_not]; omega) ?_
        refine W.df [15] 31 (!decide (x < 0)) (by kernel_rfl) (by simp [hx]) ?_
        exact W.r [27, 31] (.tuple #[.int .i64 0, .bool false]) (by kernel_rfl) ⟨by rw [hs]; rfl, rfl⟩ ent0
    · refine W.df [12] 18 (decide (x < 0)) (by kernel_rfl) (decide_eq_false hx) ?_
      refine W.dt [15, 18] 31 (!decide (x < 0)) (by kernel_rfl) (by simp [hx]) ?_
      by_cases hb : x.natAbs < 9223372036854775808
      · have hs : small x = true := by unfold small; simp only [Bool.and_eq_true, decide_eq_true_eq]; omega
        refine W.dt [31] 27 (decide (((x.natAbs : Nat) : Int) < 9223372036854775808)) (by kernel_rfl) (by rw [decide_eq_true_iff]; omega) ?_
        refine W.r [27] (.tuple #[.int .i64 (IntKind.i64.wrap ((x.natAbs : Nat) : Int)), .bool true]) (by kernel_rfl) ⟨?_, rfl⟩ ent0
        rw [hs, if_pos rfl, i64_in _ (by omega), show ((x.natAbs : Nat) : Int) = x by omega]
      · have hs : small x = false := by unfold small; simp only [Bool.and_eq_false_iff, decide_eq_false_iff_not]; omega
        refine W.df [31] 27 (decide (((x.natAbs : Nat) : Int) < 9223372036854775808)) (by kernel_rfl) (by rw [decide_eq_false_iff_not]; omega) ?_
        exact W.r [27] (.tuple #[.int .i64 0, .bool false]) (by kernel_rfl) ⟨by rw [hs]; rfl, rfl⟩ ent0

theorem cmpZ_eq {x y : Int} : cmpZ x y = 0 ↔ x = y := by unfold cmpZ; (repeat' split) <;> omega
end

end Go.Proofs.YtlpfkbkpnljieaaGreat
