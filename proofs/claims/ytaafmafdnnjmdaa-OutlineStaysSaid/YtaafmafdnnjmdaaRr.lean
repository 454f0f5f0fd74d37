
/- The reference's square, fold, bounds, between, less. The reference's sign: it is the sign, where its search ends. Numbers out of texts: the reference's search for their signs ends. The reference's floor and nearest whole number: they are the program's. The reference's floor and nearest whole number, by bits. -/
import Derived.Test.YtaafmafdnnjmdaaRk
import Derived.Test.YtaafmafdnnjmdaaRefT
import Derived.Test.YtaafmafdnnjmdaaRc
import Derived.Test.YtaafmafdnnjmdaaSu
import Derived.Test.YtaafmafdnnjmdaaSy
set_option linter.unusedSimpArgs false
set_option linter.unusedVariables false
namespace Go.Proofs.Ytaafmafdnnjmdaa
open Go.RowKit Go.IntWalk

theorem made1 (x : Nat) : ((x : Int)).natAbs = x ∧ (x ≠ 0 → (1 : Int) = (x : Int).sign) := by
  refine ⟨by omega, fun h => ?_⟩
  exact (Int.sign_eq_one_of_pos (by omega)).symm
theorem fold_tt {S : Sn} (h1 : isSq S.m = true) (h2 : isSq S.n = true) : S.fold = ⟨S.m, S.n, 0 + (0 + S.p + rtq S.m * S.q) + rtq S.n * (0 + S.r + rtq S.m * S.s), 0 + 0 + rtq S.n * 0, 0, 0⟩ := by
  unfold Sn.fold Sn.f1
  rw [if_pos h1]
  unfold Sn.f2
  rw [if_pos h2]
  unfold Sn.f3
  rw [if_neg (fun h => by rw [h1] at h; simp at h)]
theorem fold_tf {S : Sn} (h1 : isSq S.m = true) (h2 : isSq S.n = false) : S.fold = ⟨S.m, S.n, 0 + S.p + rtq S.m * S.q, 0, 0 + S.r + rtq S.m * S.s, 0⟩ := by
  unfold Sn.fold Sn.f1
  rw [if_pos h1]
  unfold Sn.f2
  rw [if_neg (by rw [h2]; simp)]
  unfold Sn.f3
  rw [if_neg (fun h => by rw [h1] at h; simp at h)]
theorem fold_ft {S : Sn} (h1 : isSq S.m = false) (h2 : isSq S.n = true) : S.fold = ⟨S.m, S.n, 0 + S.p + rtq S.n * S.r, 0 + S.q + rtq S.n * S.s, 0, 0⟩ := by
  unfold Sn.fold Sn.f1
  rw [if_neg (by rw [h1]; simp)]
  unfold Sn.f2
  rw [if_pos h2]
  unfold Sn.f3
  rw [if_neg (fun h => by have := h.2.2; simp only at this; rw [h2] at this; simp at this)]
theorem fold_fft {S : Sn} (h1 : isSq S.m = false) (h2 : isSq S.n = false) (h3 : isSq (S.m * S.n) = true) : S.fold = ⟨S.m, S.n, 0 + S.p + rtq (S.m * S.n) * S.s, 0 + S.q + rtq (S.m * S.n) / (S.m : Rat) * S.r, 0, 0⟩ := by
  unfold Sn.fold Sn.f1
  rw [if_neg (by rw [h1]; simp)]
  unfold Sn.f2
  rw [if_neg (by rw [h2]; simp)]
  unfold Sn.f3
  rw [if_pos ⟨h3, h1, h2⟩]
theorem fold_fff {S : Sn} (h1 : isSq S.m = false) (h2 : isSq S.n = false) (h3 : isSq (S.m * S.n) = false) : S.fold = S := by
  unfold Sn.fold Sn.f1
  rw [if_neg (by rw [h1]; simp)]
  unfold Sn.f2
  rw [if_neg (by rw [h2]; simp)]
  unfold Sn.f3
  rw [if_neg (fun h => by rw [h3] at h; simp at h)]
theorem sq_ne {m : Int} (h : isSq m = false) : (m : Rat) ≠ 0 := fun e => by
  have : m = 0 := Rat.intCast_inj.1 e
  rw [this, isSq_zero] at h
  simp at h
def Sn.lessr (S : Sn) (y : Rat) : Sn := ⟨S.m, S.n, S.p - y, S.q, S.r, S.s⟩
theorem psum2 (p q : Pw) (x y : Rat) : psum [(⟨p, x⟩ : PE), ⟨q, y⟩] = 0 + x + y := rfl

theorem YF.tight {S : Int} {s : Sl} {L b : Nat} {x : Int} {I : Blk} {w : World} (h : (YF S s (L, x)).p I w) (hx : x.natAbs ≤ 2 ^ b) : (YF S s (b / 13 + 1, x)).p I w := by
  obtain ⟨⟨⟨l, hi, hd, hn, hv⟩, h2, h3⟩, h4⟩ := h
  refine ⟨⟨⟨l, hi, hd, hn, hv⟩, h2, ?_⟩, h4⟩
  have hlt : x.natAbs < 10000 ^ (b / 13 + 1) := by
    have e1 : 2 ^ b < 2 ^ (13 * (b / 13 + 1)) := Nat.pow_lt_pow_right (by omega) (by omega)
    have e2 : 2 ^ (13 * (b / 13 + 1)) = (2 ^ 13) ^ (b / 13 + 1) := Nat.pow_mul 2 13 _
    have e3 : (2 ^ 13) ^ (b / 13 + 1) ≤ 10000 ^ (b / 13 + 1) := Nat.pow_le_pow_left (by decide) _
    omega
  have := hn.len_of_lt (B := 10000) (k := b / 13 + 1) (by decide) (by rw [hv]; exact hlt)
  have := hi.1
  simp only
  omega

section
variable {fin : VS → List Fact → Prop} {Γ : List Fact} {L M K : Nat}
theorem entTY {S : Int} {s : Sl} {z : Int} {k : Nat} [h : Has (YF S s) (L, z) Γ] (hq : z.natAbs ≤ 2 ^ k) {I : Blk} {w : World} (hh : Holds Γ I w) : (YF S s (k / 13 + 1, z)).p I w := YF.tight (h.p hh) hq
theorem W.pn {P : Program} {c : Cfg} (S : Int) (s : Sl) (R : Int) (t : Sl) {q : Rat} [h : Has (PF S s R t) (L, q) Γ] (hm : midOps c.k = false) (hk : S = q.num.sign → W tb P fin c Γ) : W tb P fin c Γ :=
  W.know _ hm (fun _ _ _ hh => by
    obtain ⟨n, d, h1, h2, hd, hq⟩ := h.p hh
    rw [h1.2]
    exact sign_of hd hq) hk
end
end Go.Proofs.Ytaafmafdnnjmdaa

set_option linter.unusedSimpArgs false
set_option linter.unusedVariables false
namespace Go.Proofs.Ytaafmafdnnjmdaa
open Go.RowKit Go.IntWalk

theorem sign_nz {q : Rat} : (q.num.sign == 0) = true ↔ q = 0 := by rw [beq_iff_eq, sign_eq0]
theorem sgn_lo {q : Rat} : q.num.sign > 0 ↔ 0 < q := by
  constructor
  · intro h
    by_cases h0 : q = 0
    · rw [sign_eq0.2 h0] at h; simp at h
    · by_cases h1 : q < 0
      · have := sign_lt0.2 h1; omega
      · grind
  · intro h
    exact sign_pos_q h
where
  sign_pos_q {q : Rat} (h : 0 < q) : q.num.sign > 0 := by
    have h1 : ¬ q.num.sign < 0 := fun e => by rw [sign_lt0] at e; grind
    have h2 : ¬ q.num.sign = 0 := fun e => by rw [sign_eq0] at e; grind
    omega
section
variable {fin : VS → List Fact → Prop} {Γ : List Fact} {L M K : Nat}
end
end Go.Proofs.Ytaafmafdnnjmdaa

set_option linter.unusedSimpArgs false
set_option linter.unusedVariables false
namespace Go.Proofs.Ytaafmafdnnjmdaa
open Go.RowKit Go.IntWalk

theorem madeOk_pos {M N : Int} {ss : List ByteArray} (h : madeOk M N ss = true) : 0 ≤ M ∧ 0 ≤ N := by
  unfold madeOk at h
  simp only [Bool.and_eq_true, decide_eq_true_eq] at h
  exact ⟨h.2.2.1, h.2.2.2⟩
theorem pAt_bits {M N : Int} {ss : List ByteArray} (h : madeOk M N ss = true) (i : Nat) : md 84 84 (pAt ss i) := by
  have hk : 10 ^ 25 < 2 ^ 84 := by decide +kernel
  unfold madeOk at h
  rw [Bool.and_eq_true, Bool.and_eq_true] at h
  have h2 := h.2.1
  unfold pAt
  cases hi : ss[i]? with
  | none => exact md.zero _ _
  | some s =>
    have := List.all_eq_true.1 h2 s (List.mem_of_getElem? hi)
    unfold pgood at this
    rw [Bool.and_eq_true] at this
    exact (bq_qval (of_decide_eq_true this.1) hk).md
theorem int_pow {z : Int} (h : -9223372036854775808 ≤ z ∧ z < 9223372036854775808) : z.natAbs ≤ 2 ^ 63 := by
  have : (2 : Nat) ^ 63 = 9223372036854775808 := by decide +kernel
  omega
/-- A number of four parts so great. -/
def mdS (A D : Nat) (S : Sn) : Prop := md A D S.p ∧ md A D S.q ∧ md A D S.r ∧ md A D S.s
theorem mdS.sub {A D B E : Nat} {S T : Sn} (h : mdS A D S) (g : mdS B E T) : mdS (max A B + 1) (D + E) (S.sub T) :=
  ⟨h.1.sub g.1, h.2.1.sub g.2.1, h.2.2.1.sub g.2.2.1, h.2.2.2.sub g.2.2.2⟩
theorem snOf_bits {M N : Int} {ss : List ByteArray} (h : madeOk M N ss = true) : mdS 84 84 (snOf M N ss) := ⟨pAt_bits h 0, pAt_bits h 1, pAt_bits h 2, pAt_bits h 3⟩
theorem sepS {S : Sn} {A D : Nat} (h : mdS A D S) (hm : 0 ≤ S.m) (hn : 0 ≤ S.n) (cm : S.m.natAbs ≤ 2 ^ 63) (cn : S.n.natAbs ≤ 2 ^ 63) (hE : 24 * D + 9 * 63 + 4 * A + 40 < 8192) : ¬ S.fold.nil → 0 < S.fold.lo 8192 ∨ S.fold.hi 8192 < 0 :=
  sep_all S hm hn cm cn h.1 h.2.1 h.2.2.1 h.2.2.2 hE
end Go.Proofs.Ytaafmafdnnjmdaa

set_option linter.unusedSimpArgs false
set_option linter.unusedVariables false
namespace Go.Proofs.Ytaafmafdnnjmdaa
open Go.RowKit Go.IntWalk

/-- The search for its sign ends. -/
def Sn.sep (S : Sn) : Prop := ¬ S.fold.nil → 0 < S.fold.lo 8192 ∨ S.fold.hi 8192 < 0
theorem lessr_v (S : Sn) (y : Rat) (k : Nat) : (S.lessr y).v k = S.v k - y := by
  unfold Sn.v v1 Sn.lessr
  grind
theorem lessr_q (S : Sn) (q : Int) : S.lessr (q : Rat) = S.lessq q := rfl
theorem sg_lo (S : Sn) (hm : 0 ≤ S.m) (hn : 0 ≤ S.n) {k : Nat} {y : Rat} (h : y ≤ S.lo k) : 0 ≤ (S.lessr y).sg := by
  have s1 := sig2 (S.lessr y) hm hn
  rcases s1 with ⟨e, _⟩ | ⟨e, _⟩ | ⟨e, e1, he1, K1, p1⟩
  · omega
  · omega
  · exfalso
    obtain ⟨g1, g2⟩ := half_pos he1
    obtain ⟨K2, p2⟩ := w_v S hm hn _ g1
    have a1 : e1 ≤ -(S.lessr y).v (max k (max K1 K2)) := p1 (max k (max K1 K2)) (by omega)
    have a2 := p2 (max k (max K1 K2)) (by omega)
    have a3 := (lo_w S hm hn (show k ≤ max k (max K1 K2) by omega)).1
    rw [lessr_v] at a1
    grind
theorem sg_hi (S : Sn) (hm : 0 ≤ S.m) (hn : 0 ≤ S.n) {k : Nat} {y : Rat} (h : S.hi k < y) : (S.lessr y).sg = -1 := by
  obtain ⟨g1, g2⟩ := half_pos (show 0 < y - S.hi k by grind)
  obtain ⟨K2, p2⟩ := w_v S hm hn _ g1
  refine (sig2 (S.lessr y) hm hn).unique (.inr (.inr ⟨rfl, _, g1, max k K2, fun j hj => ?_⟩))
  have a2 := p2 j (by omega)
  have a3 := (lo_w S hm hn (show k ≤ j by omega)).2
  show _ ≤ -(S.lessr y).v j
  rw [lessr_v]
  grind
theorem fl_ge (S : Sn) (hm : 0 ≤ S.m) (hn : 0 ≤ S.n) (k : Nat) : qfl (S.lo k) ≤ S.fl := by
  have h1 := sg_lo S hm hn (qfl_le (S.lo k))
  rw [lessr_q] at h1
  have h2 := S.fl_spec hm hn
  by_cases h : qfl (S.lo k) ≤ S.fl
  · exact h
  · have := lessq_mono S hm hn (show S.fl + 1 ≤ qfl (S.lo k) by omega)
    omega
theorem fl_le (S : Sn) (hm : 0 ≤ S.m) (hn : 0 ≤ S.n) (k : Nat) : S.fl ≤ qfl (S.hi k) := by
  have h2 := S.fl_spec hm hn
  by_cases h : S.fl ≤ qfl (S.hi k)
  · exact h
  · have h3 := qfl_lt (S.hi k)
    have h4 : ((qfl (S.hi k) + 1 : Int) : Rat) ≤ ((S.fl : Int) : Rat) := Rat.intCast_le_intCast.2 (by omega)
    rw [Rat.intCast_add] at h4
    have c1 : ((1 : Int) : Rat) = 1 := rfl
    rw [c1] at h4
    have h5 := sg_hi S hm hn (k := k) (y := ((S.fl : Int) : Rat)) (by grind)
    rw [lessr_q] at h5
    omega
theorem sg_more {S : Sn} (hm : 0 ≤ S.m) (hn : 0 ≤ S.n) {e : Rat} (he : 0 < e) (h : 0 ≤ S.sg) : (S.up e).sg = 1 := by
  have hv : ∀ k, (S.up e).v k = S.v k + e := fun k => by
    unfold Sn.v v1 Sn.up
    grind
  refine (sig2 (S.up e) hm hn).unique (.inl ⟨rfl, ?_⟩)
  have hc : Pos (fun _ => e) := ⟨e, he, 0, fun _ _ => Rat.le_refl⟩
  rcases sig2 S hm hn with ⟨_, p⟩ | ⟨_, p⟩ | ⟨e1, _⟩
  · exact (p.add hc).congr (fun k => (hv k).symm)
  · exact (hc.add_nul p).congr (fun k => by rw [hv]; grind)
  · omega
/-- The nearest whole number by the floor, as the document has it. -/
theorem nr_fl (S : Sn) (hm : 0 ≤ S.m) (hn : 0 ≤ S.n) : S.nr = if ((S.lessr (S.fl : Rat)).lessr (Rat.divInt 1 2)).sg < 0 ∨ (((S.lessr (S.fl : Rat)).lessr (Rat.divInt 1 2)).sg = 0 ∧ S.fl % 2 = 0) then S.fl else S.fl + 1 := by
  obtain ⟨f1, f2⟩ := S.fl_spec hm hn
  have hh : Rat.divInt 1 2 + Rat.divInt 1 2 = 1 := by decide +kernel
  have hp : 0 < Rat.divInt 1 2 := by decide +kernel
  have c1 : ((1 : Int) : Rat) = 1 := rfl
  have c2 : ((2 : Int) : Rat) = 2 := rfl
  have eT : (S.lessr (S.fl : Rat)).lessr (Rat.divInt 1 2) = S.half.lessq (S.fl + 1) := by
    refine Sn.ext' rfl rfl ?_ rfl rfl rfl
    simp only [Sn.lessr, Sn.half, Sn.up, Sn.lessq, Rat.intCast_add, c1]
    grind
  have e0 : S.half.lessq S.fl = (S.lessq S.fl).up (Rat.divInt 1 2) := by
    refine Sn.ext' rfl rfl ?_ rfl rfl rfl
    simp only [Sn.half, Sn.up, Sn.lessq]
    grind
  have h0 : (S.half.lessq S.fl).sg = 1 := by rw [e0]; exact sg_more (S := S.lessq S.fl) hm hn hp f1
  have h2 : (S.half.lessq (S.fl + 2)).sg < 0 := by
    have := sg_mono (S := S.half.lessq (S.fl + 2)) (T := S.lessq (S.fl + 1)) hm hn rfl rfl ⟨0, fun k _ => by
      rw [Sn.lessq_v, Sn.lessq_v, Rat.intCast_add, Rat.intCast_add, c1, c2]
      have : S.half.v k = S.v k + Rat.divInt 1 2 := by
        unfold Sn.v v1 Sn.half Sn.up
        grind
      rw [this]
      grind⟩
    omega
  rw [eT]
  unfold Sn.nr
  by_cases h1 : (S.half.lessq (S.fl + 1)).sg < 0
  · have hf : S.half.fl = S.fl := Sn.fl_unique S.half hm hn (by omega) h1
    rw [hf, if_neg (fun h => by omega), if_pos (.inl h1)]
  · have hf : S.half.fl = S.fl + 1 := Sn.fl_unique S.half hm hn (by omega) (by rw [show S.fl + 1 + 1 = S.fl + 2 by omega]; exact h2)
    rw [hf]
    by_cases h3 : (S.half.lessq (S.fl + 1)).sg = 0
    · by_cases h4 : S.fl % 2 = 0
      · rw [if_pos ⟨h3, fun e => by rw [show (S.fl + 1) % 2 = 1 by omega] at e; simp at e⟩, if_pos (.inr ⟨h3, h4⟩)]
        omega
      · rw [if_neg (fun h => h.2 (by rw [show (S.fl + 1) % 2 = 0 by omega]; rfl)), if_neg (fun h => by rcases h with h | h; omega; exact h4 h.2)]
    · rw [if_neg (fun h => h3 h.1), if_neg (fun h => by rcases h with h | h; omega; exact h3 h.1)]

section
variable {fin : VS → List Fact → Prop} {Γ : List Fact} {L M K : Nat}
end
end Go.Proofs.Ytaafmafdnnjmdaa

set_option linter.unusedSimpArgs false
set_option linter.unusedVariables false
namespace Go.Proofs.Ytaafmafdnnjmdaa
open Go.RowKit Go.IntWalk

theorem mul_b {A F : Nat} {x y : Rat} (h1 : -(tw A) ≤ x) (h2 : x ≤ tw A) (h3 : 0 ≤ y) (h4 : y ≤ tw F) : -(tw (A + F)) ≤ x * y ∧ x * y ≤ tw (A + F) := by
  have p1 := tw_pos A
  rw [tw_add]
  have q1 := Rat.mul_nonneg (show 0 ≤ tw A - x by grind) h3
  have q2 := Rat.mul_nonneg (show 0 ≤ tw A + x by grind) h3
  have q3 := Rat.mul_nonneg (Rat.le_of_lt p1) (show 0 ≤ tw F - y by grind)
  constructor <;> grind
theorem bounds_b {A c : Nat} {x : Rat} {r : Int} (hr : 0 ≤ r) (hc : r.natAbs ≤ 2 ^ c) (h1 : -(tw A) ≤ x) (h2 : x ≤ tw A) (k : Nat) : -(tw (A + (c + 2))) ≤ blo x r k ∧ bhi x r k ≤ tw (A + (c + 2)) := by
  obtain ⟨a1, a2⟩ := apx_le hr hc k
  obtain ⟨g1, g2⟩ := rhi_le r k
  have t1 := tk_le1 k
  have b1 := mul_b h1 h2 (show 0 ≤ rhi r k by grind) (show rhi r k ≤ tw (c + 2) by grind)
  have b2 := mul_b h1 h2 (show 0 ≤ rlo r k by rw [rlo_apx]; exact a1) (show rlo r k ≤ tw (c + 2) by rw [rlo_apx]; grind)
  unfold blo bhi
  split <;> exact ⟨by first | exact b1.1 | exact b2.1, by first | exact b2.2 | exact b1.2⟩
theorem qfl_b {y : Rat} {B : Nat} (h1 : -(tw B) ≤ y) : -(2 ^ B : Nat) ≤ qfl y := by
  by_cases h : -(2 ^ B : Nat) ≤ qfl y
  · exact h
  · have h2 := qfl_lt y
    have h3 : ((qfl y + 1 : Int) : Rat) ≤ ((-(2 ^ B : Nat) : Int) : Rat) := Rat.intCast_le_intCast.2 (by omega)
    rw [Rat.intCast_add, Rat.intCast_neg] at h3
    have c1 : ((1 : Int) : Rat) = 1 := rfl
    rw [c1] at h3
    unfold tw at h1
    grind
theorem qfl_t {y : Rat} {B : Nat} (h1 : y ≤ tw B) : qfl y ≤ (2 ^ B : Nat) := by
  by_cases h : qfl y ≤ (2 ^ B : Nat)
  · exact h
  · have h2 := qfl_le y
    have h3 : (((2 ^ B : Nat) + 1 : Int) : Rat) ≤ ((qfl y : Int) : Rat) := Rat.intCast_le_intCast.2 (by omega)
    rw [Rat.intCast_add] at h3
    have c1 : ((1 : Int) : Rat) = 1 := rfl
    rw [c1] at h3
    unfold tw at h1
    grind
/-- How far the search for the floor goes. -/
theorem flo_b {S : Sn} {A c : Nat} (hm : 0 ≤ S.m) (hn : 0 ≤ S.n) (cm : S.m.natAbs ≤ 2 ^ c) (cn : S.n.natAbs ≤ 2 ^ c) (h : (-(tw A) ≤ S.p ∧ S.p ≤ tw A) ∧ (-(tw A) ≤ S.q ∧ S.q ≤ tw A) ∧ (-(tw A) ≤ S.r ∧ S.r ≤ tw A) ∧ (-(tw A) ≤ S.s ∧ S.s ≤ tw A)) (k : Nat) {B : Nat} (hB : A + 2 * c + 4 = B) :
    -(2 ^ B : Nat) ≤ qfl (S.lo k) ∧ qfl (S.hi k) ≤ (2 ^ B : Nat) := by
  subst hB
  have b0 := bounds_b (c := 0) (r := 1) (by decide) (by decide) h.1.1 h.1.2 k
  have b1 := bounds_b hm cm h.2.1.1 h.2.1.2 k
  have b2 := bounds_b hn cn h.2.2.1.1 h.2.2.1.2 k
  have b3 := bounds_b (Int.mul_nonneg hm hn) (mul_bits cm cn) h.2.2.2.1 h.2.2.2.2 k
  have m0 := tw_mono (show A + (0 + 2) ≤ A + 2 * c + 2 by omega)
  have m1 := tw_mono (show A + (c + 2) ≤ A + 2 * c + 2 by omega)
  have m3 := tw_mono (show A + (2 * c + 2) ≤ A + 2 * c + 2 by omega)
  have e : tw (A + 2 * c + 4) = tw (A + 2 * c + 2) * 4 := by rw [show A + 2 * c + 4 = A + 2 * c + 2 + 2 by omega, tw_add]; rfl
  have c0 : ((0 : Int) : Rat) = 0 := rfl
  refine ⟨qfl_b ?_, qfl_t ?_⟩
  · rw [e]
    unfold Sn.lo
    rw [c0]
    grind
  · rw [e]
    unfold Sn.hi
    rw [c0]
    grind
theorem half_md : md 0 1 (Rat.divInt 1 2) := by
  have h1 : tw 0 = 1 := rfl
  refine ⟨?_, ?_, ?_⟩
  · rw [h1]; decide +kernel
  · rw [h1]; decide +kernel
  · decide +kernel
theorem fl_b {S : Sn} (hm : 0 ≤ S.m) (hn : 0 ≤ S.n) {B : Nat} (h1 : -(2 ^ B : Nat) ≤ qfl (S.lo 8)) (h2 : qfl (S.hi 8) ≤ (2 ^ B : Nat)) : S.fl.natAbs ≤ 2 ^ B := by
  have := fl_ge S hm hn 8
  have := fl_le S hm hn 8
  omega
section
variable {fin : VS → List Fact → Prop} {Γ : List Fact} {L M K : Nat}
theorem sep_r2' {x y : Rat} {A D : Nat} (hx : md A D x) (hy : md A D y) (hE : 4 * D + 2 * A + 10 < 8192) : (r2F x y).sep := by
  unfold Sn.sep
  rw [fold_r2]
  exact sep_r2 hx hy hE
end
end Go.Proofs.Ytaafmafdnnjmdaa
