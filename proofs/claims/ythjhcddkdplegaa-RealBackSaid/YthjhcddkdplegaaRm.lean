
/- Numbers as eight bytes: the plain law; the contract of real.Encode. -/
import Derived.Test.YthjhcddkdplegaaRl
set_option linter.unusedSimpArgs false
set_option linter.unusedVariables false
namespace Go.Proofs.Ythjhcddkdplegaa
open Go.RowKit Go.IntWalk

theorem pw_one (a : Int) (h : 0 ≤ a) : 1 ≤ pw a := by
  obtain ⟨k, rfl⟩ := Int.eq_ofNat_of_zero_le h
  rw [pw_nat, show (1 : Rat) = ((1 : Int) : Rat) from rfl, Rat.intCast_le_intCast]
  have := two_posI k
  omega
theorem pw_mono {a b : Int} (h : a ≤ b) : pw a ≤ pw b := by
  have h1 := pw_one (b - a) (by omega)
  have h2 := pw_pos a
  rw [show b = a + (b - a) by omega, pw_add]
  have := Rat.mul_le_mul_of_nonneg_left h1 (Rat.le_of_lt h2)
  rwa [Rat.mul_one] at this

/-- The number times 16 to the power of 78 - e. -/
def M (s : Rat) (e : Nat) : Rat := s * pw (4 * (78 - (e : Int)))
def qabs (q : Rat) : Rat := if q < 0 then -q else q
theorem qabs_neg {q : Rat} (h : q < 0) : qabs q = -q := if_pos h
theorem qabs_pos {q : Rat} (h : ¬ q < 0) : qabs q = q := if_neg h
def EncE (s : Rat) (e : Nat) : Prop := ∀ e', e' < e → ((72057594037927936 : Nat) : Int) ≤ M s e'
def ebytes (neg : Bool) (e : Nat) (n : Int) : List Int := [(if neg then 128 else 0) + e, n / 281474976710656 % 256, n / 1099511627776 % 256, n / 4294967296 % 256, n / 16777216 % 256, n / 65536 % 256, n / 256 % 256, n % 256]
def Enc (q : Rat) (r : Option (List Int)) : Prop := (q = 0 ∧ r = some [0, 0, 0, 0, 0, 0, 0, 0]) ∨ (q ≠ 0 ∧ ∃ e : Nat, EncE (qabs q) e ∧ ((e = 128 ∧ r = none) ∨ (e < 128 ∧ M (qabs q) e < ((72057594037927936 : Nat) : Int) ∧
  (((M (qabs q) e).den ≠ 1 ∧ r = none) ∨ ((M (qabs q) e).den = 1 ∧ r = some (ebytes (decide (q < 0)) e (M (qabs q) e).num))))))

theorem Enc.unique {q : Rat} {r r' : Option (List Int)} (h : Enc q r) (h' : Enc q r') : r = r' := by
  rcases h with ⟨h0, rfl⟩ | ⟨h0, e, hE, h⟩
  · rcases h' with ⟨_, rfl⟩ | ⟨h0', _⟩
    · rfl
    · exact absurd h0 h0'
  · rcases h' with ⟨h0', _⟩ | ⟨_, e', hE', h'⟩
    · exact absurd h0' h0
    · have he : e = e' := by
        rcases Nat.lt_trichotomy e e' with hl | hl | hl
        · have := hE' e hl
          rcases h with ⟨rfl, _⟩ | ⟨_, h2, _⟩
          · rcases h' with ⟨rfl, _⟩ | ⟨h1, _⟩ <;> omega
          · exact absurd h2 (Rat.not_lt.2 this)
        · exact hl
        · have := hE e' hl
          rcases h' with ⟨rfl, _⟩ | ⟨_, h2, _⟩
          · rcases h with ⟨rfl, _⟩ | ⟨h1, _⟩ <;> omega
          · exact absurd h2 (Rat.not_lt.2 this)
      subst he
      rcases h with ⟨h1, rfl⟩ | ⟨h1, h2, h3⟩ <;> rcases h' with ⟨g1, rfl⟩ | ⟨g1, g2, g3⟩
      · rfl
      · omega
      · omega
      · rcases h3 with ⟨h3, rfl⟩ | ⟨h3, rfl⟩ <;> rcases g3 with ⟨g3, rfl⟩ | ⟨g3, rfl⟩
        · rfl
        · exact absurd g3 h3
        · exact absurd h3 g3
        · rfl

theorem tdiv4 (x : Int) : 4 * x.tdiv 4 ≤ x + 3 ∧ x - 3 ≤ 4 * x.tdiv 4 := by
  have h := Int.tmod_add_mul_tdiv x 4
  have h1 := Int.tmod_lt_of_pos x (show (0 : Int) < 4 by decide)
  have h2 := Int.lt_tmod_of_pos x (show (0 : Int) < 4 by decide)
  omega

theorem rnum_pos {q : Rat} : 0 < q.num ↔ 0 < q := by
  constructor
  · intro h
    have h1 : 0 ≤ q := Rat.num_nonneg.1 (Int.le_of_lt h)
    have h2 : q ≠ 0 := fun e => by rw [e] at h; exact absurd h (by decide)
    grind
  · intro h
    have h1 : 0 ≤ q.num := Rat.num_nonneg.2 (Rat.le_of_lt h)
    have h2 : q.num ≠ 0 := fun e => by rw [Rat.num_eq_zero] at e; rw [e] at h; exact absurd h (by decide)
    omega
theorem num_ge {s : Rat} (hs : 0 < s) : pw ((bl s.num.natAbs : Int) - 1) ≤ ((s.num : Int) : Rat) := by
  have hn : 0 < s.num := rnum_pos.2 hs
  have hb : bl s.num.natAbs ≠ 0 := by
    unfold bl
    rw [if_neg (by omega)]
    omega
  have h1 := bl_lo (x := s.num.natAbs) (by omega)
  rw [show ((bl s.num.natAbs : Int) - 1) = ((bl s.num.natAbs - 1 : Nat) : Int) by omega, pw_nat, Rat.intCast_le_intCast]
  omega
theorem den_le (s : Rat) : ((s.den : Int) : Rat) ≤ pw (bl s.den : Int) := by
  have h1 := (bl_le s.den (bl s.den)).1 (Nat.le_refl _)
  rw [pw_nat, Rat.intCast_le_intCast]
  omega

theorem enc_start (s : Rat) (hs : 0 < s) (e : Nat) (h : (e : Int) < ((bl s.num.natAbs : Int) - (bl (((s.den : Int)).natAbs) : Int)).tdiv 4 + 56) : ((72057594037927936 : Nat) : Int) ≤ M s e := by
  have ht := tdiv4 ((bl s.num.natAbs : Int) - (bl (((s.den : Int)).natAbs) : Int))
  rw [Int.natAbs_natCast] at h ht
  have h1 := num_ge hs
  have h2 := den_le s
  generalize ((bl s.num.natAbs : Int)) = X at *
  generalize ((bl s.den : Int)) = Y at *
  have hd : (0 : Rat) < ((s.den : Int) : Rat) := by
    rw [show (0 : Rat) = ((0 : Int) : Rat) from rfl, Rat.intCast_lt_intCast]
    exact den_pos' s
  have hsd : s * ((s.den : Int) : Rat) = ((s.num : Int) : Rat) := by
    have e : s = ((s.num : Int) : Rat) / ((s.den : Int) : Rat) := by
      have := Rat.num_divInt_den s
      rw [Rat.divInt_eq_div] at this
      exact this.symm
    have e2 : s * ((s.den : Int) : Rat) = ((s.num : Int) : Rat) / ((s.den : Int) : Rat) * ((s.den : Int) : Rat) := congrArg (· * ((s.den : Int) : Rat)) e
    rw [e2, Rat.div_mul_cancel (by grind)]
  have hp := pw_pos (4 * (78 - (e : Int)))
  have h56 : pw 56 = (((72057594037927936 : Nat) : Int) : Rat) := pw_nat 56
  rw [← h56]
  have k1 : pw 56 * ((s.den : Int) : Rat) ≤ pw 56 * pw Y := Rat.mul_le_mul_of_nonneg_left h2 (Rat.le_of_lt (pw_pos 56))
  have k2 : pw 56 * pw Y ≤ pw (X - 1) * pw (4 * (78 - (e : Int))) := by
    rw [← pw_add, ← pw_add]
    exact pw_mono (by omega)
  have k3 : pw (X - 1) * pw (4 * (78 - (e : Int))) ≤ ((s.num : Int) : Rat) * pw (4 * (78 - (e : Int))) := Rat.mul_le_mul_of_nonneg_right h1 (Rat.le_of_lt hp)
  have k4 : pw 56 * ((s.den : Int) : Rat) ≤ M s e * ((s.den : Int) : Rat) := by
    refine Rat.le_trans k1 (Rat.le_trans k2 (Rat.le_trans k3 ?_))
    unfold M
    rw [← hsd]
    rw [show s * ((s.den : Int) : Rat) * pw (4 * (78 - (e : Int))) = s * pw (4 * (78 - (e : Int))) * ((s.den : Int) : Rat) by grind]
    exact Rat.le_refl
  exact Rat.le_of_mul_le_mul_right k4 hd

theorem num_small {x : Rat} (h : 0 < x) (h1 : x.den = 1) (h2 : x < ((72057594037927936 : Nat) : Int)) : x.num.natAbs < 18446744073709551616 ∧ x.num < 72057594037927936 := by
  have hx : x = ((x.num : Int) : Rat) := (Rat.ext (by simp) (by simpa using h1))
  rw [hx, Rat.intCast_lt_intCast] at h2
  have := rnum_pos.2 h
  omega
theorem cmpZ_one {d : Nat} (h : (cmpZ (d : Int) 1 != 0) = false) : d = 1 := by
  unfold cmpZ at h
  split at h
  · exact absurd h (by decide)
  · split at h
    · omega
    · exact absurd h (by decide)
theorem shr8 (a : Int) : a.fdiv (2 ^ (min (8 : Int).toNat IntKind.u64.bits)) = a / 256 := by
  rw [show (min (8 : Int).toNat IntKind.u64.bits) = 8 by decide]
  rw [Int.fdiv_eq_ediv_of_nonneg _ (by decide)]
  rfl
theorem ebytes_ok (b : Bool) {e : Nat} (he : e < 128) (n : Int) : Bytes (ebytes b e n) := by
  intro z hz
  unfold ebytes at hz
  simp only [List.mem_cons, List.not_mem_nil, or_false] at hz
  rcases hz with rfl | rfl | rfl | rfl | rfl | rfl | rfl | rfl
  · cases b <;> simp only [if_true, Bool.false_eq_true, if_false] <;> omega
  all_goals omega
theorem ebor1 (e : Nat) (he : e < 128) : Go.bits .or .u8 128 ((e : Int) % 256) = (if true then 128 else 0) + (e : Int) := by
  rw [show ((e : Int) % 256) = e by omega]
  exact bits_join .u8 8 (by decide) wraps_u8 7 128 (e : Int) (by decide) (by decide) (by decide) (by omega) (by simp; omega) (by simp; omega)
theorem ebor0 (e : Nat) (he : e < 128) : Go.bits .or .u8 0 ((e : Int) % 256) = (if false then 128 else 0) + (e : Int) := by
  rw [show ((e : Int) % 256) = e by omega]
  exact bits_join .u8 8 (by decide) wraps_u8 7 0 (e : Int) (by decide) (by decide) (by decide) (by omega) (by simp; omega) (by simp; omega)

def EncP (q : Rat) (v : Value) (Δ : List Fact) : Prop := ∃ r, Enc q r ∧ ((r = none ∧ v = .tuple #[.slice none 0 0, .int .i64 4] ∧ Δ = []) ∨
  (∃ bs ao c, r = some bs ∧ bs.length = 8 ∧ Bytes bs ∧ v = .tuple #[.slice ao 8 c, .int .i64 0] ∧ 8 ≤ c ∧ Δ = [RA ao (bs.map (Value.int .u8))]))

section
variable {Γ : List Fact} {L : Nat} {fin : VS → List Fact → Prop}
theorem NF.bl {I : Blk} {w : World} {s : Sl} {x : Nat} (h : (NF s (L, x)).p I w) : bl x ≤ 32 * L := by
  obtain ⟨h1, _, h3⟩ := h
  have h1 : NatS w s x := h1
  have := h1.lt_pow
  simp only at h3
  rw [bl_le]
  refine Nat.lt_of_lt_of_le this ?_
  rw [show 2 ^ (32 * L) = 4294967296 ^ L by rw [Nat.pow_mul]]
  exact Nat.pow_le_pow_right (by decide) h3
theorem W.qbl {P : Program} {c : Cfg} (n : Sl) (nb : Bool) (d : Sl) (db : Bool) {q : Rat} [h : Has (QF n nb d db) (L, q) Γ] (hm : midOps c.k = false) (hk : bl q.num.natAbs ≤ 32 * L → bl ((q.den : Int)).natAbs ≤ 32 * L + 1 → W tb P fin c Γ) : W tb P fin c Γ :=
  W.know (bl q.num.natAbs ≤ 32 * L ∧ bl ((q.den : Int)).natAbs ≤ 32 * L + 1) hm (fun I w _ hh => by
    obtain ⟨y, h1, h2, h3⟩ := h.p hh
    refine ⟨NF.bl h1.1, ?_⟩
    have hy := NF.bl h2.1
    simp only at hy h3
    rcases h3 with rfl | ⟨_, h3⟩
    · omega
    · rw [h3]
      have : Go.Proofs.Ythjhcddkdplegaa.bl ((((1 : Nat) : Int)).natAbs) = 1 := by decide
      omega) (fun h => hk h.1 h.2)
--<enc
theorem p_enc (n : Sl) (a : Bool) (m : Sl) (b : Bool) {q : Rat} [h : Has (QF n a m b) (L, q) Γ] (hL : L ≤ 100000 := by omega) :
    PCalls tb Try.prog 18 [qv n a m b] Γ (EncP q) := by
  refine PCalls.of_W tbOk Try.func18 rfl (by kernel_rfl) ?_
  refine W.qbl n a m b rfl (fun hb1 hbd => ?_)
  refine W.mks [] [] 1 1 8 [.int .u8 0] [.int .u8 0, .int .u8 0, .int .u8 0, .int .u8 0, .int .u8 0, .int .u8 0, .int .u8 0, .int .u8 0] .i64 .i64 tbOk (by kernel_rfl) (by kernel_rfl) (by decide) (by decide) (fun g => ?_)
  refine W.cl [] (by kernel_rfl) (p_qsign n a m b) ?_
  rintro _ _ ⟨rfl, rfl⟩
  refine W.d [] 16 (q.num.sign == 0) (by kernel_rfl) (fun hb => ?_) (fun hb => ?_)
  · have hq0 : q = 0 := sign_eq0.1 (by simpa using hb)
    refine W.pubr [] [] g [.int .u8 0, .int .u8 0, .int .u8 0, .int .u8 0, .int .u8 0, .int .u8 0, .int .u8 0, .int .u8 0] (by kernel_rfl) (by kernel_rfl) ?_
    refine W.r [16] (.tuple #[.slice (some ⟨g, 0, none⟩) 8 8, .int .i64 0]) (by kernel_rfl) ⟨_, .inl ⟨hq0, rfl⟩, .inr ⟨_, some ⟨g, 0, none⟩, 8, rfl, rfl, by intro z hz; simp at hz; omega, rfl, Nat.le_refl _, rfl⟩⟩ (entRA (b := g) (fun i v hv => hv))
  · have hq0 : q ≠ 0 := fun e => by
      rw [sign_eq0.2 e] at hb
      exact absurd hb (by decide)
    refine W.cl [16] (by kernel_rfl) (p_qsign n a m b) ?_
    rintro _ _ ⟨rfl, rfl⟩
    refine W.d [] 21 (decide (q.num.sign < 0)) (by kernel_rfl) (fun hb => ?_) (fun hb => ?_)
    · have hlt := sign_lt0.1 (of_decide_eq_true hb)
      have hs0 : 0 < -q := by grind
      refine W.cl [21] (by kernel_rfl) (p_qneg n a m b) ?_
      rintro _ _ ⟨n4, a4, m4, b4, rfl, rfl⟩
      refine W.ia [] 1 g 0 8 8 .i64 0 0 rfl tbOk (by kernel_rfl) (by decide) ?_
      refine W.stn [] [(g, [.int .u8 0, .int .u8 0, .int .u8 0, .int .u8 0, .int .u8 0, .int .u8 0, .int .u8 0, .int .u8 0])] [] [] 1 g (0 + 0 * 1) [.int .u8 0, .int .u8 0, .int .u8 0, .int .u8 0, .int .u8 0, .int .u8 0, .int .u8 0, .int .u8 0] (.int .u8 128) [.int .u8 128, .int .u8 0, .int .u8 0, .int .u8 0, .int .u8 0, .int .u8 0, .int .u8 0, .int .u8 0] tbOk (by kernel_rfl) rfl rfl (one_int _ _) (by simp) rfl ?_
      refine W.cl [] (by kernel_rfl) (p_of' 72057594037927936 72057594037927936 rfl (by decide)) ?_
      rintro _ _ ⟨u7, rfl, rfl⟩
      refine W.cl [] (by kernel_rfl) (p_zbig u7) ?_
      rintro _ _ ⟨u8, d8, rfl, rfl⟩
      refine W.cl [] (by kernel_rfl) (p_qwhole u8 d8) ?_
      rintro _ _ ⟨n9, a9, m9, b9, rfl, rfl⟩
      refine W.cl [] (by kernel_rfl) (p_qnum n4 a4 m4 b4) ?_
      rintro _ _ ⟨u10, d10, rfl, rfl⟩
      refine W.cl [] (by kernel_rfl) (p_zabs u10 d10) ?_
      rintro _ _ ⟨rfl, rfl⟩
      refine W.cl [] (by kernel_rfl) (p_bits u10) ?_
      rintro _ _ ⟨rfl, rfl⟩
      refine W.cl [] (by kernel_rfl) (p_qden n4 a4 m4 b4) ?_
      rintro _ _ ⟨u13, d13, rfl, rfl⟩
      refine W.cl [] (by kernel_rfl) (p_zabs u13 d13) ?_
      rintro _ _ ⟨rfl, rfl⟩
      refine W.cl [] (by kernel_rfl) (p_bits u13) ?_
      rintro _ _ ⟨rfl, rfl⟩
      have hN : bl ((-q)).num.natAbs ≤ 32 * L := by rw [Rat.neg_num, Int.natAbs_neg]; exact hb1
      have hD : bl ((((-q)).den : Int)).natAbs ≤ 32 * L + 1 := by rw [Rat.neg_den]; exact hbd
      have hst := enc_start ((-q)) hs0
      generalize bl ((-q)).num.natAbs = X at *
      generalize bl ((((-q)).den : Int)).natAbs = Y at *
      refine W.quo [] (IntKind.i64.wrap ((X : Int) - (Y : Int))) 4 (((X : Int) - (Y : Int)).tdiv 4) (by kernel_rfl) (by decide) (by have := tdiv4 ((X : Int) - (Y : Int)); simp only [IntKind.wrap_i64]; rw [show ((X : Int) - (Y : Int) + 9223372036854775808) % 18446744073709551616 - 9223372036854775808 = (X : Int) - (Y : Int) by omega]; omega) ?_
      have htd := tdiv4 ((X : Int) - (Y : Int))
      generalize ((X : Int) - (Y : Int)).tdiv 4 = Z at *
      refine W.mx [] .i64 0 (IntKind.i64.wrap (Z + 60)) (max 0 (Z + 60)) (by kernel_rfl) (by simp only [IntKind.wrap_i64]; omega) ?_
      refine W.mx [] .i64 0 (IntKind.i64.wrap (max 0 (Z + 60) - 4)) (max 0 (Z + 56)) (by kernel_rfl) (by simp only [IntKind.wrap_i64]; omega) ?_
      by_cases h128 : max 0 (Z + 56) ≤ 128
      rotate_left
      · refine W.lp [] [8] (fun a : Unit => [(8, .int .i64 (max 0 (Z + 56)))]) (fun _ => []) (fun _ => []) (fun _ => True) (fun _ => 0) () (by kernel_rfl) (by kernel_rfl) trivial ent0 ?_
        rintro - R - close
        refine W.df [] 45 (decide (max 0 (Z + 56) < 128)) (by kernel_rfl) (decide_eq_false (by omega)) ?_
        refine W.r [45] (.tuple #[.slice none 0 0, .int .i64 4]) (by kernel_rfl) ⟨none, .inr ⟨hq0, 128, fun e' he' => ?_, .inl ⟨rfl, rfl⟩⟩, .inl ⟨rfl, rfl, rfl⟩⟩ ent0
        rw [qabs_neg hlt]
        exact hst e' (by omega)
      refine W.lp [] [8] (fun a : Nat × Int => [(8, .int .i64 a.2)]) (fun _ => []) (fun _ => [QF n4 a4 m4 b4 (L, (-q)), QF n9 a9 m9 b9 (2, ((72057594037927936 : Nat) : Int))]) (fun a => a.2 = a.1 ∧ a.1 ≤ 128 ∧ EncE ((-q)) a.1) (fun a => 128 - a.1) ((max 0 (Z + 56)).toNat, max 0 (Z + 56)) (by kernel_rfl) (by kernel_rfl) ⟨by omega, by omega, fun e' he' => hst e' (by omega)⟩ (entAll (Δ := [_]) (Δ' := [_]) (entQ (by omega) rfl) (entQ (by omega) rfl)) ?_
      rintro ⟨e, z⟩ R ⟨hz, he, hE⟩ close
      simp only at hz he hE
      refine W.d [] 45 (decide (z < 128)) (by kernel_rfl) (fun hb => ?_) (fun hb => ?_)
      rotate_left
      · have hk := of_decide_eq_false hb
        refine W.r [45] (.tuple #[.slice none 0 0, .int .i64 4]) (by kernel_rfl) ⟨none, .inr ⟨hq0, e, by rw [qabs_neg hlt]; exact hE, .inl ⟨by omega, rfl⟩⟩, .inl ⟨rfl, rfl, rfl⟩⟩ ent0
      have hk := of_decide_eq_true hb
      refine W.cl [45] (by kernel_rfl) (p_power (IntKind.i64.wrap (4 * IntKind.i64.wrap (78 - z))) (4 * (78 - (e : Int))) (by simp only [IntKind.wrap_i64]; omega) (by omega) (by omega)) ?_
      rintro _ _ ⟨n17, a17, m17, b17, rfl, rfl⟩
      refine W.cl [] (by kernel_rfl) (p_qmul n4 a4 m4 b4 n17 a17 m17 b17) ?_
      rintro _ _ ⟨n18, a18, m18, b18, rfl, rfl⟩
      refine W.cl [] (by kernel_rfl) (p_qcmp n18 a18 m18 b18 n9 a9 m9 b9) ?_
      rintro _ _ ⟨rfl, rfl⟩
      have hM : (-q) * pw (4 * (78 - (e : Int))) = M ((-q)) e := rfl
      rw [hM] at *
      refine W.d [] 57 (decide (cmpQ (M ((-q)) e) ((72057594037927936 : Nat) : Int) ≥ 0)) (by kernel_rfl) (fun hb2 => ?_) (fun hb2 => ?_)
      · have hk2 := cmpQ_ge.1 (of_decide_eq_true hb2)
        refine close [57] _ _ (e + 1, IntKind.i64.wrap (z + 1)) (by kernel_rfl) (by kernel_rfl) ⟨by simp only [IntKind.wrap_i64]; omega, by omega, fun e' he' => ?_⟩ (by simp only; omega) (entAll (Δ := [_]) (Δ' := [_]) (entQ (by omega) rfl) (entQ (by omega) rfl))
        rcases Nat.lt_or_ge e' e with h | h
        · exact hE e' h
        · obtain rfl : e' = e := by omega
          exact hk2
      have hk2 : M ((-q)) e < ((72057594037927936 : Nat) : Int) := by
        have := of_decide_eq_false hb2
        rwa [ge_iff_le, cmpQ_ge, Rat.not_le] at this
      have hMp : 0 < M ((-q)) e := Rat.mul_pos hs0 (pw_pos _)
      refine W.cl [57] (by kernel_rfl) (p_qnum n18 a18 m18 b18) ?_
      rintro _ _ ⟨u20, d20, rfl, rfl⟩
      refine W.cl [] (by kernel_rfl) (p_zabs u20 d20) ?_
      rintro _ _ ⟨rfl, rfl⟩
      by_cases hw : (M ((-q)) e).num.natAbs < 18446744073709551616
      rotate_left
      · refine W.cl [] (by kernel_rfl) (p_word_big u20 (by omega)) ?_
        rintro _ _ ⟨rfl, rfl⟩
        have hden : (M ((-q)) e).den ≠ 1 := fun h1 => hw (num_small hMp h1 hk2).1
        refine W.r [73, 67] (.tuple #[.slice none 0 0, .int .i64 4]) (by kernel_rfl) ⟨none, .inr ⟨hq0, e, by rw [qabs_neg hlt]; exact hE, .inr ⟨by omega, by rw [qabs_neg hlt]; exact hk2, .inl ⟨by rw [qabs_neg hlt]; exact hden, rfl⟩⟩⟩, .inl ⟨rfl, rfl, rfl⟩⟩ ent0
      refine W.cl [] (by kernel_rfl) (p_word_small u20 hw) ?_
      rintro _ _ ⟨rfl, rfl⟩
      refine W.cl [67] (by kernel_rfl) (p_qden n18 a18 m18 b18) ?_
      rintro _ _ ⟨u23, d23, rfl, rfl⟩
      refine W.cl [67] (by kernel_rfl) (p_zof 1 (by omega) (by omega)) ?_
      rintro _ _ ⟨u24, d24, rfl, rfl⟩
      refine W.cl [67] (by kernel_rfl) (p_zcmp u23 d23 u24 d24) ?_
      rintro _ _ ⟨rfl, rfl⟩
      refine W.d [67] 73 (cmpZ ((M ((-q)) e).den : Int) 1 != 0) (by kernel_rfl) (fun hb3 => ?_) (fun hb3 => ?_)
      · have hden : (M ((-q)) e).den ≠ 1 := fun h1 => by
          rw [h1] at hb3
          exact absurd hb3 (by decide)
        refine W.r [73] (.tuple #[.slice none 0 0, .int .i64 4]) (by kernel_rfl) ⟨none, .inr ⟨hq0, e, by rw [qabs_neg hlt]; exact hE, .inr ⟨by omega, by rw [qabs_neg hlt]; exact hk2, .inl ⟨by rw [qabs_neg hlt]; exact hden, rfl⟩⟩⟩, .inl ⟨rfl, rfl, rfl⟩⟩ ent0
      have hden : (M ((-q)) e).den = 1 := cmpZ_one hb3
      have hnum := (num_small hMp hden hk2).2
      have hnp : 0 < (M ((-q)) e).num := rnum_pos.2 hMp
      have hEnc : Enc q (some (ebytes true e (M ((-q)) e).num)) := .inr ⟨hq0, e, by rw [qabs_neg hlt]; exact hE, .inr ⟨by omega, by rw [qabs_neg hlt]; exact hk2, .inr ⟨by rw [qabs_neg hlt]; exact hden, by rw [show decide (q < 0) = true from decide_eq_true hlt, qabs_neg hlt]⟩⟩⟩
      have hnn : (((M ((-q)) e).num.natAbs : Nat) : Int) = (M ((-q)) e).num := by omega
      generalize (M ((-q)) e).num = n at *
      refine W.ia [73] 1 g 0 8 8 .i64 0 0 rfl tbOk (by kernel_rfl) (by decide) ?_
      refine W.ldc [] [(g, [.int .u8 128, .int .u8 0, .int .u8 0, .int .u8 0, .int .u8 0, .int .u8 0, .int .u8 0, .int .u8 0])] g (0 + 0 * 1) 1 [.int .u8 128, .int .u8 0, .int .u8 0, .int .u8 0, .int .u8 0, .int .u8 0, .int .u8 0, .int .u8 0] (.int .u8 128) tbOk (by kernel_rfl) (by simp) rfl ?_
      refine W.ia [] 1 g 0 8 8 .i64 0 0 rfl tbOk (by kernel_rfl) (by decide) ?_
      refine W.stn [] [(g, [.int .u8 128, .int .u8 0, .int .u8 0, .int .u8 0, .int .u8 0, .int .u8 0, .int .u8 0, .int .u8 0])] [] [] 1 g (0 + 0 * 1) [.int .u8 128, .int .u8 0, .int .u8 0, .int .u8 0, .int .u8 0, .int .u8 0, .int .u8 0, .int .u8 0] (.int .u8 (Go.bits .or .u8 128 (IntKind.u8.wrap z))) [.int .u8 (Go.bits .or .u8 128 (IntKind.u8.wrap z)), .int .u8 0, .int .u8 0, .int .u8 0, .int .u8 0, .int .u8 0, .int .u8 0, .int .u8 0] tbOk (by kernel_rfl) rfl rfl (one_int _ _) (by simp) rfl ?_
      refine W.unr [] 8 (by kernel_rfl) ?_
      refine W.ia [82] 1 g 0 8 8 .i64 7 7 rfl tbOk (by kernel_rfl) (by decide) ?_
      refine W.stn [] [(g, [.int .u8 (Go.bits .or .u8 128 (IntKind.u8.wrap z)), .int .u8 0, .int .u8 0, .int .u8 0, .int .u8 0, .int .u8 0, .int .u8 0, .int .u8 0])] [] [] 1 g (0 + 7 * 1) [.int .u8 (Go.bits .or .u8 128 (IntKind.u8.wrap z)), .int .u8 0, .int .u8 0, .int .u8 0, .int .u8 0, .int .u8 0, .int .u8 0, .int .u8 0] (.int .u8 (IntKind.u8.wrap ((n.natAbs : Nat) : Int))) [.int .u8 (Go.bits .or .u8 128 (IntKind.u8.wrap z)), .int .u8 0, .int .u8 0, .int .u8 0, .int .u8 0, .int .u8 0, .int .u8 0, .int .u8 (IntKind.u8.wrap ((n.natAbs : Nat) : Int))] tbOk (by kernel_rfl) rfl rfl (one_int _ _) (by simp) rfl ?_
      refine W.shr [] .u64 .u64 ((n.natAbs : Nat) : Int) 8 (n / 256) (by kernel_rfl) (by decide) (by rw [shr8, hnn]) ?_
      refine W.ia [82] 1 g 0 8 8 .i64 6 6 rfl tbOk (by kernel_rfl) (by decide) ?_
      refine W.stn [] [(g, [.int .u8 (Go.bits .or .u8 128 (IntKind.u8.wrap z)), .int .u8 0, .int .u8 0, .int .u8 0, .int .u8 0, .int .u8 0, .int .u8 0, .int .u8 (IntKind.u8.wrap ((n.natAbs : Nat) : Int))])] [] [] 1 g (0 + 6 * 1) [.int .u8 (Go.bits .or .u8 128 (IntKind.u8.wrap z)), .int .u8 0, .int .u8 0, .int .u8 0, .int .u8 0, .int .u8 0, .int .u8 0, .int .u8 (IntKind.u8.wrap ((n.natAbs : Nat) : Int))] (.int .u8 (IntKind.u8.wrap (n / 256))) [.int .u8 (Go.bits .or .u8 128 (IntKind.u8.wrap z)), .int .u8 0, .int .u8 0, .int .u8 0, .int .u8 0, .int .u8 0, .int .u8 (IntKind.u8.wrap (n / 256)), .int .u8 (IntKind.u8.wrap ((n.natAbs : Nat) : Int))] tbOk (by kernel_rfl) rfl rfl (one_int _ _) (by simp) rfl ?_
      refine W.shr [] .u64 .u64 (n / 256) 8 (n / 65536) (by kernel_rfl) (by decide) (by rw [shr8]; omega) ?_
      refine W.ia [82] 1 g 0 8 8 .i64 5 5 rfl tbOk (by kernel_rfl) (by decide) ?_
      refine W.stn [] [(g, [.int .u8 (Go.bits .or .u8 128 (IntKind.u8.wrap z)), .int .u8 0, .int .u8 0, .int .u8 0, .int .u8 0, .int .u8 0, .int .u8 (IntKind.u8.wrap (n / 256)), .int .u8 (IntKind.u8.wrap ((n.natAbs : Nat) : Int))])] [] [] 1 g (0 + 5 * 1) [.int .u8 (Go.bits .or .u8 128 (IntKind.u8.wrap z)), .int .u8 0, .int .u8 0, .int .u8 0, .int .u8 0, .int .u8 0, .int .u8 (IntKind.u8.wrap (n / 256)), .int .u8 (IntKind.u8.wrap ((n.natAbs : Nat) : Int))] (.int .u8 (IntKind.u8.wrap (n / 65536))) [.int .u8 (Go.bits .or .u8 128 (IntKind.u8.wrap z)), .int .u8 0, .int .u8 0, .int .u8 0, .int .u8 0, .int .u8 (IntKind.u8.wrap (n / 65536)), .int .u8 (IntKind.u8.wrap (n / 256)), .int .u8 (IntKind.u8.wrap ((n.natAbs : Nat) : Int))] tbOk (by kernel_rfl) rfl rfl (one_int _ _) (by simp) rfl ?_
      refine W.shr [] .u64 .u64 (n / 65536) 8 (n / 16777216) (by kernel_rfl) (by decide) (by rw [shr8]; omega) ?_
      refine W.ia [82] 1 g 0 8 8 .i64 4 4 rfl tbOk (by kernel_rfl) (by decide) ?_
      refine W.stn [] [(g, [.int .u8 (Go.bits .or .u8 128 (IntKind.u8.wrap z)), .int .u8 0, .int .u8 0, .int .u8 0, .int .u8 0, .int .u8 (IntKind.u8.wrap (n / 65536)), .int .u8 (IntKind.u8.wrap (n / 256)), .int .u8 (IntKind.u8.wrap ((n.natAbs : Nat) : Int))])] [] [] 1 g (0 + 4 * 1) [.int .u8 (Go.bits .or .u8 128 (IntKind.u8.wrap z)), .int .u8 0, .int .u8 0, .int .u8 0, .int .u8 0, .int .u8 (IntKind.u8.wrap (n / 65536)), .int .u8 (IntKind.u8.wrap (n / 256)), .int .u8 (IntKind.u8.wrap ((n.natAbs : Nat) : Int))] (.int .u8 (IntKind.u8.wrap (n / 16777216))) [.int .u8 (Go.bits .or .u8 128 (IntKind.u8.wrap z)), .int .u8 0, .int .u8 0, .int .u8 0, .int .u8 (IntKind.u8.wrap (n / 16777216)), .int .u8 (IntKind.u8.wrap (n / 65536)), .int .u8 (IntKind.u8.wrap (n / 256)), .int .u8 (IntKind.u8.wrap ((n.natAbs : Nat) : Int))] tbOk (by kernel_rfl) rfl rfl (one_int _ _) (by simp) rfl ?_
      refine W.shr [] .u64 .u64 (n / 16777216) 8 (n / 4294967296) (by kernel_rfl) (by decide) (by rw [shr8]; omega) ?_
      refine W.ia [82] 1 g 0 8 8 .i64 3 3 rfl tbOk (by kernel_rfl) (by decide) ?_
      refine W.stn [] [(g, [.int .u8 (Go.bits .or .u8 128 (IntKind.u8.wrap z)), .int .u8 0, .int .u8 0, .int .u8 0, .int .u8 (IntKind.u8.wrap (n / 16777216)), .int .u8 (IntKind.u8.wrap (n / 65536)), .int .u8 (IntKind.u8.wrap (n / 256)), .int .u8 (IntKind.u8.wrap ((n.natAbs : Nat) : Int))])] [] [] 1 g (0 + 3 * 1) [.int .u8 (Go.bits .or .u8 128 (IntKind.u8.wrap z)), .int .u8 0, .int .u8 0, .int .u8 0, .int .u8 (IntKind.u8.wrap (n / 16777216)), .int .u8 (IntKind.u8.wrap (n / 65536)), .int .u8 (IntKind.u8.wrap (n / 256)), .int .u8 (IntKind.u8.wrap ((n.natAbs : Nat) : Int))] (.int .u8 (IntKind.u8.wrap (n / 4294967296))) [.int .u8 (Go.bits .or .u8 128 (IntKind.u8.wrap z)), .int .u8 0, .int .u8 0, .int .u8 (IntKind.u8.wrap (n / 4294967296)), .int .u8 (IntKind.u8.wrap (n / 16777216)), .int .u8 (IntKind.u8.wrap (n / 65536)), .int .u8 (IntKind.u8.wrap (n / 256)), .int .u8 (IntKind.u8.wrap ((n.natAbs : Nat) : Int))] tbOk (by kernel_rfl) rfl rfl (one_int _ _) (by simp) rfl ?_
      refine W.shr [] .u64 .u64 (n / 4294967296) 8 (n / 1099511627776) (by kernel_rfl) (by decide) (by rw [shr8]; omega) ?_
      refine W.ia [82] 1 g 0 8 8 .i64 2 2 rfl tbOk (by kernel_rfl) (by decide) ?_
      refine W.stn [] [(g, [.int .u8 (Go.bits .or .u8 128 (IntKind.u8.wrap z)), .int .u8 0, .int .u8 0, .int .u8 (IntKind.u8.wrap (n / 4294967296)), .int .u8 (IntKind.u8.wrap (n / 16777216)), .int .u8 (IntKind.u8.wrap (n / 65536)), .int .u8 (IntKind.u8.wrap (n / 256)), .int .u8 (IntKind.u8.wrap ((n.natAbs : Nat) : Int))])] [] [] 1 g (0 + 2 * 1) [.int .u8 (Go.bits .or .u8 128 (IntKind.u8.wrap z)), .int .u8 0, .int .u8 0, .int .u8 (IntKind.u8.wrap (n / 4294967296)), .int .u8 (IntKind.u8.wrap (n / 16777216)), .int .u8 (IntKind.u8.wrap (n / 65536)), .int .u8 (IntKind.u8.wrap (n / 256)), .int .u8 (IntKind.u8.wrap ((n.natAbs : Nat) : Int))] (.int .u8 (IntKind.u8.wrap (n / 1099511627776))) [.int .u8 (Go.bits .or .u8 128 (IntKind.u8.wrap z)), .int .u8 0, .int .u8 (IntKind.u8.wrap (n / 1099511627776)), .int .u8 (IntKind.u8.wrap (n / 4294967296)), .int .u8 (IntKind.u8.wrap (n / 16777216)), .int .u8 (IntKind.u8.wrap (n / 65536)), .int .u8 (IntKind.u8.wrap (n / 256)), .int .u8 (IntKind.u8.wrap ((n.natAbs : Nat) : Int))] tbOk (by kernel_rfl) rfl rfl (one_int _ _) (by simp) rfl ?_
      refine W.shr [] .u64 .u64 (n / 1099511627776) 8 (n / 281474976710656) (by kernel_rfl) (by decide) (by rw [shr8]; omega) ?_
      refine W.ia [82] 1 g 0 8 8 .i64 1 1 rfl tbOk (by kernel_rfl) (by decide) ?_
      refine W.stn [] [(g, [.int .u8 (Go.bits .or .u8 128 (IntKind.u8.wrap z)), .int .u8 0, .int .u8 (IntKind.u8.wrap (n / 1099511627776)), .int .u8 (IntKind.u8.wrap (n / 4294967296)), .int .u8 (IntKind.u8.wrap (n / 16777216)), .int .u8 (IntKind.u8.wrap (n / 65536)), .int .u8 (IntKind.u8.wrap (n / 256)), .int .u8 (IntKind.u8.wrap ((n.natAbs : Nat) : Int))])] [] [] 1 g (0 + 1 * 1) [.int .u8 (Go.bits .or .u8 128 (IntKind.u8.wrap z)), .int .u8 0, .int .u8 (IntKind.u8.wrap (n / 1099511627776)), .int .u8 (IntKind.u8.wrap (n / 4294967296)), .int .u8 (IntKind.u8.wrap (n / 16777216)), .int .u8 (IntKind.u8.wrap (n / 65536)), .int .u8 (IntKind.u8.wrap (n / 256)), .int .u8 (IntKind.u8.wrap ((n.natAbs : Nat) : Int))] (.int .u8 (IntKind.u8.wrap (n / 281474976710656))) [.int .u8 (Go.bits .or .u8 128 (IntKind.u8.wrap z)), .int .u8 (IntKind.u8.wrap (n / 281474976710656)), .int .u8 (IntKind.u8.wrap (n / 1099511627776)), .int .u8 (IntKind.u8.wrap (n / 4294967296)), .int .u8 (IntKind.u8.wrap (n / 16777216)), .int .u8 (IntKind.u8.wrap (n / 65536)), .int .u8 (IntKind.u8.wrap (n / 256)), .int .u8 (IntKind.u8.wrap ((n.natAbs : Nat) : Int))] tbOk (by kernel_rfl) rfl rfl (one_int _ _) (by simp) rfl ?_
      refine W.shr [] .u64 .u64 (n / 281474976710656) 8 (n / 72057594037927936) (by kernel_rfl) (by decide) (by rw [shr8]; omega) ?_
      refine W.pubr [] [] g [.int .u8 (Go.bits .or .u8 128 (IntKind.u8.wrap z)), .int .u8 (IntKind.u8.wrap (n / 281474976710656)), .int .u8 (IntKind.u8.wrap (n / 1099511627776)), .int .u8 (IntKind.u8.wrap (n / 4294967296)), .int .u8 (IntKind.u8.wrap (n / 16777216)), .int .u8 (IntKind.u8.wrap (n / 65536)), .int .u8 (IntKind.u8.wrap (n / 256)), .int .u8 (IntKind.u8.wrap ((n.natAbs : Nat) : Int))] (by kernel_rfl) (by kernel_rfl) ?_
      refine W.r [82] (.tuple #[.slice (some ⟨g, 0, none⟩) 8 8, .int .i64 0]) (by kernel_rfl) ⟨_, hEnc, .inr ⟨_, some ⟨g, 0, none⟩, 8, rfl, rfl, ebytes_ok _ (by omega) _, rfl, Nat.le_refl _, rfl⟩⟩ (entRA (b := g) (fun i v hv => ?_))
      have hrow : ([.int .u8 (Go.bits .or .u8 128 (IntKind.u8.wrap z)), .int .u8 (IntKind.u8.wrap (n / 281474976710656)), .int .u8 (IntKind.u8.wrap (n / 1099511627776)), .int .u8 (IntKind.u8.wrap (n / 4294967296)), .int .u8 (IntKind.u8.wrap (n / 16777216)), .int .u8 (IntKind.u8.wrap (n / 65536)), .int .u8 (IntKind.u8.wrap (n / 256)), .int .u8 (IntKind.u8.wrap ((n.natAbs : Nat) : Int))] : List Value) = (ebytes true e n).map (Value.int .u8) := by
        simp only [ebytes, List.map_cons, List.map_nil, IntKind.wrap_u8, hnn, hz, ebor1 e (by omega)]
      rw [hrow]
      exact hv
    · have hlt := of_decide_eq_false hb
      rw [sign_lt0] at hlt
      have hs0 : 0 < q := by grind
      refine W.cl [21] (by kernel_rfl) (p_of' 72057594037927936 72057594037927936 rfl (by decide)) ?_
      rintro _ _ ⟨u7, rfl, rfl⟩
      refine W.cl [] (by kernel_rfl) (p_zbig u7) ?_
      rintro _ _ ⟨u8, d8, rfl, rfl⟩
      refine W.cl [] (by kernel_rfl) (p_qwhole u8 d8) ?_
      rintro _ _ ⟨n9, a9, m9, b9, rfl, rfl⟩
      refine W.cl [] (by kernel_rfl) (p_qnum n a m b) ?_
      rintro _ _ ⟨u10, d10, rfl, rfl⟩
      refine W.cl [] (by kernel_rfl) (p_zabs u10 d10) ?_
      rintro _ _ ⟨rfl, rfl⟩
      refine W.cl [] (by kernel_rfl) (p_bits u10) ?_
      rintro _ _ ⟨rfl, rfl⟩
      refine W.cl [] (by kernel_rfl) (p_qden n a m b) ?_
      rintro _ _ ⟨u13, d13, rfl, rfl⟩
      refine W.cl [] (by kernel_rfl) (p_zabs u13 d13) ?_
      rintro _ _ ⟨rfl, rfl⟩
      refine W.cl [] (by kernel_rfl) (p_bits u13) ?_
      rintro _ _ ⟨rfl, rfl⟩
      have hN : bl (q).num.natAbs ≤ 32 * L := hb1
      have hD : bl (((q).den : Int)).natAbs ≤ 32 * L + 1 := hbd
      have hst := enc_start (q) hs0
      generalize bl (q).num.natAbs = X at *
      generalize bl (((q).den : Int)).natAbs = Y at *
      refine W.quo [] (IntKind.i64.wrap ((X : Int) - (Y : Int))) 4 (((X : Int) - (Y : Int)).tdiv 4) (by kernel_rfl) (by decide) (by have := tdiv4 ((X : Int) - (Y : Int)); simp only [IntKind.wrap_i64]; rw [show ((X : Int) - (Y : Int) + 9223372036854775808) % 18446744073709551616 - 9223372036854775808 = (X : Int) - (Y : Int) by omega]; omega) ?_
      have htd := tdiv4 ((X : Int) - (Y : Int))
      generalize ((X : Int) - (Y : Int)).tdiv 4 = Z at *
      refine W.mx [] .i64 0 (IntKind.i64.wrap (Z + 60)) (max 0 (Z + 60)) (by kernel_rfl) (by simp only [IntKind.wrap_i64]; omega) ?_
      refine W.mx [] .i64 0 (IntKind.i64.wrap (max 0 (Z + 60) - 4)) (max 0 (Z + 56)) (by kernel_rfl) (by simp only [IntKind.wrap_i64]; omega) ?_
      by_cases h128 : max 0 (Z + 56) ≤ 128
      rotate_left
      · refine W.lp [] [8] (fun a : Unit => [(8, .int .i64 (max 0 (Z + 56)))]) (fun _ => []) (fun _ => []) (fun _ => True) (fun _ => 0) () (by kernel_rfl) (by kernel_rfl) trivial ent0 ?_
        rintro - R - close
        refine W.df [] 45 (decide (max 0 (Z + 56) < 128)) (by kernel_rfl) (decide_eq_false (by omega)) ?_
        refine W.r [45] (.tuple #[.slice none 0 0, .int .i64 4]) (by kernel_rfl) ⟨none, .inr ⟨hq0, 128, fun e' he' => ?_, .inl ⟨rfl, rfl⟩⟩, .inl ⟨rfl, rfl, rfl⟩⟩ ent0
        rw [qabs_pos hlt]
        exact hst e' (by omega)
      refine W.lp [] [8] (fun a : Nat × Int => [(8, .int .i64 a.2)]) (fun _ => []) (fun _ => [QF n a m b (L, q), QF n9 a9 m9 b9 (2, ((72057594037927936 : Nat) : Int))]) (fun a => a.2 = a.1 ∧ a.1 ≤ 128 ∧ EncE (q) a.1) (fun a => 128 - a.1) ((max 0 (Z + 56)).toNat, max 0 (Z + 56)) (by kernel_rfl) (by kernel_rfl) ⟨by omega, by omega, fun e' he' => hst e' (by omega)⟩ (entAll (Δ := [_]) (Δ' := [_]) (entQ (by omega) rfl) (entQ (by omega) rfl)) ?_
      rintro ⟨e, z⟩ R ⟨hz, he, hE⟩ close
      simp only at hz he hE
      refine W.d [] 45 (decide (z < 128)) (by kernel_rfl) (fun hb => ?_) (fun hb => ?_)
      rotate_left
      · have hk := of_decide_eq_false hb
        refine W.r [45] (.tuple #[.slice none 0 0, .int .i64 4]) (by kernel_rfl) ⟨none, .inr ⟨hq0, e, by rw [qabs_pos hlt]; exact hE, .inl ⟨by omega, rfl⟩⟩, .inl ⟨rfl, rfl, rfl⟩⟩ ent0
      have hk := of_decide_eq_true hb
      refine W.cl [45] (by kernel_rfl) (p_power (IntKind.i64.wrap (4 * IntKind.i64.wrap (78 - z))) (4 * (78 - (e : Int))) (by simp only [IntKind.wrap_i64]; omega) (by omega) (by omega)) ?_
      rintro _ _ ⟨n17, a17, m17, b17, rfl, rfl⟩
      refine W.cl [] (by kernel_rfl) (p_qmul n a m b n17 a17 m17 b17) ?_
      rintro _ _ ⟨n18, a18, m18, b18, rfl, rfl⟩
      refine W.cl [] (by kernel_rfl) (p_qcmp n18 a18 m18 b18 n9 a9 m9 b9) ?_
      rintro _ _ ⟨rfl, rfl⟩
      have hM : q * pw (4 * (78 - (e : Int))) = M (q) e := rfl
      rw [hM] at *
      refine W.d [] 57 (decide (cmpQ (M (q) e) ((72057594037927936 : Nat) : Int) ≥ 0)) (by kernel_rfl) (fun hb2 => ?_) (fun hb2 => ?_)
      · have hk2 := cmpQ_ge.1 (of_decide_eq_true hb2)
        refine close [57] _ _ (e + 1, IntKind.i64.wrap (z + 1)) (by kernel_rfl) (by kernel_rfl) ⟨by simp only [IntKind.wrap_i64]; omega, by omega, fun e' he' => ?_⟩ (by simp only; omega) (entAll (Δ := [_]) (Δ' := [_]) (entQ (by omega) rfl) (entQ (by omega) rfl))
        rcases Nat.lt_or_ge e' e with h | h
        · exact hE e' h
        · obtain rfl : e' = e := by omega
          exact hk2
      have hk2 : M (q) e < ((72057594037927936 : Nat) : Int) := by
        have := of_decide_eq_false hb2
        rwa [ge_iff_le, cmpQ_ge, Rat.not_le] at this
      have hMp : 0 < M (q) e := Rat.mul_pos hs0 (pw_pos _)
      refine W.cl [57] (by kernel_rfl) (p_qnum n18 a18 m18 b18) ?_
      rintro _ _ ⟨u20, d20, rfl, rfl⟩
      refine W.cl [] (by kernel_rfl) (p_zabs u20 d20) ?_
      rintro _ _ ⟨rfl, rfl⟩
      by_cases hw : (M (q) e).num.natAbs < 18446744073709551616
      rotate_left
      · refine W.cl [] (by kernel_rfl) (p_word_big u20 (by omega)) ?_
        rintro _ _ ⟨rfl, rfl⟩
        have hden : (M (q) e).den ≠ 1 := fun h1 => hw (num_small hMp h1 hk2).1
        refine W.r [73, 67] (.tuple #[.slice none 0 0, .int .i64 4]) (by kernel_rfl) ⟨none, .inr ⟨hq0, e, by rw [qabs_pos hlt]; exact hE, .inr ⟨by omega, by rw [qabs_pos hlt]; exact hk2, .inl ⟨by rw [qabs_pos hlt]; exact hden, rfl⟩⟩⟩, .inl ⟨rfl, rfl, rfl⟩⟩ ent0
      refine W.cl [] (by kernel_rfl) (p_word_small u20 hw) ?_
      rintro _ _ ⟨rfl, rfl⟩
      refine W.cl [67] (by kernel_rfl) (p_qden n18 a18 m18 b18) ?_
      rintro _ _ ⟨u23, d23, rfl, rfl⟩
      refine W.cl [67] (by kernel_rfl) (p_zof 1 (by omega) (by omega)) ?_
      rintro _ _ ⟨u24, d24, rfl, rfl⟩
      refine W.cl [67] (by kernel_rfl) (p_zcmp u23 d23 u24 d24) ?_
      rintro _ _ ⟨rfl, rfl⟩
      refine W.d [67] 73 (cmpZ ((M (q) e).den : Int) 1 != 0) (by kernel_rfl) (fun hb3 => ?_) (fun hb3 => ?_)
      · have hden : (M (q) e).den ≠ 1 := fun h1 => by
          rw [h1] at hb3
          exact absurd hb3 (by decide)
        refine W.r [73] (.tuple #[.slice none 0 0, .int .i64 4]) (by kernel_rfl) ⟨none, .inr ⟨hq0, e, by rw [qabs_pos hlt]; exact hE, .inr ⟨by omega, by rw [qabs_pos hlt]; exact hk2, .inl ⟨by rw [qabs_pos hlt]; exact hden, rfl⟩⟩⟩, .inl ⟨rfl, rfl, rfl⟩⟩ ent0
      have hden : (M (q) e).den = 1 := cmpZ_one hb3
      have hnum := (num_small hMp hden hk2).2
      have hnp : 0 < (M (q) e).num := rnum_pos.2 hMp
      have hEnc : Enc q (some (ebytes false e (M (q) e).num)) := .inr ⟨hq0, e, by rw [qabs_pos hlt]; exact hE, .inr ⟨by omega, by rw [qabs_pos hlt]; exact hk2, .inr ⟨by rw [qabs_pos hlt]; exact hden, by rw [show decide (q < 0) = false from decide_eq_false hlt, qabs_pos hlt]⟩⟩⟩
      have hnn : (((M (q) e).num.natAbs : Nat) : Int) = (M (q) e).num := by omega
      generalize (M (q) e).num = n at *
      refine W.ia [73] 1 g 0 8 8 .i64 0 0 rfl tbOk (by kernel_rfl) (by decide) ?_
      refine W.ldc [] [(g, [.int .u8 0, .int .u8 0, .int .u8 0, .int .u8 0, .int .u8 0, .int .u8 0, .int .u8 0, .int .u8 0])] g (0 + 0 * 1) 1 [.int .u8 0, .int .u8 0, .int .u8 0, .int .u8 0, .int .u8 0, .int .u8 0, .int .u8 0, .int .u8 0] (.int .u8 0) tbOk (by kernel_rfl) (by simp) rfl ?_
      refine W.ia [] 1 g 0 8 8 .i64 0 0 rfl tbOk (by kernel_rfl) (by decide) ?_
      refine W.stn [] [(g, [.int .u8 0, .int .u8 0, .int .u8 0, .int .u8 0, .int .u8 0, .int .u8 0, .int .u8 0, .int .u8 0])] [] [] 1 g (0 + 0 * 1) [.int .u8 0, .int .u8 0, .int .u8 0, .int .u8 0, .int .u8 0, .int .u8 0, .int .u8 0, .int .u8 0] (.int .u8 (Go.bits .or .u8 0 (IntKind.u8.wrap z))) [.int .u8 (Go.bits .or .u8 0 (IntKind.u8.wrap z)), .int .u8 0, .int .u8 0, .int .u8 0, .int .u8 0, .int .u8 0, .int .u8 0, .int .u8 0] tbOk (by kernel_rfl) rfl rfl (one_int _ _) (by simp) rfl ?_
      refine W.unr [] 8 (by kernel_rfl) ?_
      refine W.ia [82] 1 g 0 8 8 .i64 7 7 rfl tbOk (by kernel_rfl) (by decide) ?_
      refine W.stn [] [(g, [.int .u8 (Go.bits .or .u8 0 (IntKind.u8.wrap z)), .int .u8 0, .int .u8 0, .int .u8 0, .int .u8 0, .int .u8 0, .int .u8 0, .int .u8 0])] [] [] 1 g (0 + 7 * 1) [.int .u8 (Go.bits .or .u8 0 (IntKind.u8.wrap z)), .int .u8 0, .int .u8 0, .int .u8 0, .int .u8 0, .int .u8 0, .int .u8 0, .int .u8 0] (.int .u8 (IntKind.u8.wrap ((n.natAbs : Nat) : Int))) [.int .u8 (Go.bits .or .u8 0 (IntKind.u8.wrap z)), .int .u8 0, .int .u8 0, .int .u8 0, .int .u8 0, .int .u8 0, .int .u8 0, .int .u8 (IntKind.u8.wrap ((n.natAbs : Nat) : Int))] tbOk (by kernel_rfl) rfl rfl (one_int _ _) (by simp) rfl ?_
      refine W.shr [] .u64 .u64 ((n.natAbs : Nat) : Int) 8 (n / 256) (by kernel_rfl) (by decide) (by rw [shr8, hnn]) ?_
      refine W.ia [82] 1 g 0 8 8 .i64 6 6 rfl tbOk (by kernel_rfl) (by decide) ?_
      refine W.stn [] [(g, [.int .u8 (Go.bits .or .u8 0 (IntKind.u8.wrap z)), .int .u8 0, .int .u8 0, .int .u8 0, .int .u8 0, .int .u8 0, .int .u8 0, .int .u8 (IntKind.u8.wrap ((n.natAbs : Nat) : Int))])] [] [] 1 g (0 + 6 * 1) [.int .u8 (Go.bits .or .u8 0 (IntKind.u8.wrap z)), .int .u8 0, .int .u8 0, .int .u8 0, .int .u8 0, .int .u8 0, .int .u8 0, .int .u8 (IntKind.u8.wrap ((n.natAbs : Nat) : Int))] (.int .u8 (IntKind.u8.wrap (n / 256))) [.int .u8 (Go.bits .or .u8 0 (IntKind.u8.wrap z)), .int .u8 0, .int .u8 0, .int .u8 0, .int .u8 0, .int .u8 0, .int .u8 (IntKind.u8.wrap (n / 256)), .int .u8 (IntKind.u8.wrap ((n.natAbs : Nat) : Int))] tbOk (by kernel_rfl) rfl rfl (one_int _ _) (by simp) rfl ?_
      refine W.shr [] .u64 .u64 (n / 256) 8 (n / 65536) (by kernel_rfl) (by decide) (by rw [shr8]; omega) ?_
      refine W.ia [82] 1 g 0 8 8 .i64 5 5 rfl tbOk (by kernel_rfl) (by decide) ?_
      refine W.stn [] [(g, [.int .u8 (Go.bits .or .u8 0 (IntKind.u8.wrap z)), .int .u8 0, .int .u8 0, .int .u8 0, .int .u8 0, .int .u8 0, .int .u8 (IntKind.u8.wrap (n / 256)), .int .u8 (IntKind.u8.wrap ((n.natAbs : Nat) : Int))])] [] [] 1 g (0 + 5 * 1) [.int .u8 (Go.bits .or .u8 0 (IntKind.u8.wrap z)), .int .u8 0, .int .u8 0, .int .u8 0, .int .u8 0, .int .u8 0, .int .u8 (IntKind.u8.wrap (n / 256)), .int .u8 (IntKind.u8.wrap ((n.natAbs : Nat) : Int))] (.int .u8 (IntKind.u8.wrap (n / 65536))) [.int .u8 (Go.bits .or .u8 0 (IntKind.u8.wrap z)), .int .u8 0, .int .u8 0, .int .u8 0, .int .u8 0, .int .u8 (IntKind.u8.wrap (n / 65536)), .int .u8 (IntKind.u8.wrap (n / 256)), .int .u8 (IntKind.u8.wrap ((n.natAbs : Nat) : Int))] tbOk (by kernel_rfl) rfl rfl (one_int _ _) (by simp) rfl ?_
      refine W.shr [] .u64 .u64 (n / 65536) 8 (n / 16777216) (by kernel_rfl) (by decide) (by rw [shr8]; omega) ?_
      refine W.ia [82] 1 g 0 8 8 .i64 4 4 rfl tbOk (by kernel_rfl) (by decide) ?_
      refine W.stn [] [(g, [.int .u8 (Go.bits .or .u8 0 (IntKind.u8.wrap z)), .int .u8 0, .int .u8 0, .int .u8 0, .int .u8 0, .int .u8 (IntKind.u8.wrap (n / 65536)), .int .u8 (IntKind.u8.wrap (n / 256)), .int .u8 (IntKind.u8.wrap ((n.natAbs : Nat) : Int))])] [] [] 1 g (0 + 4 * 1) [.int .u8 (Go.bits .or .u8 0 (IntKind.u8.wrap z)), .int .u8 0, .int .u8 0, .int .u8 0, .int .u8 0, .int .u8 (IntKind.u8.wrap (n / 65536)), .int .u8 (IntKind.u8.wrap (n / 256)), .int .u8 (IntKind.u8.wrap ((n.natAbs : Nat) : Int))] (.int .u8 (IntKind.u8.wrap (n / 16777216))) [.int .u8 (Go.bits .or .u8 0 (IntKind.u8.wrap z)), .int .u8 0, .int .u8 0, .int .u8 0, .int .u8 (IntKind.u8.wrap (n / 16777216)), .int .u8 (IntKind.u8.wrap (n / 65536)), .int .u8 (IntKind.u8.wrap (n / 256)), .int .u8 (IntKind.u8.wrap ((n.natAbs : Nat) : Int))] tbOk (by kernel_rfl) rfl rfl (one_int _ _) (by simp) rfl ?_
      refine W.shr [] .u64 .u64 (n / 16777216) 8 (n / 4294967296) (by kernel_rfl) (by decide) (by rw [shr8]; omega) ?_
      refine W.ia [82] 1 g 0 8 8 .i64 3 3 rfl tbOk (by kernel_rfl) (by decide) ?_
      refine W.stn [] [(g, [.int .u8 (Go.bits .or .u8 0 (IntKind.u8.wrap z)), .int .u8 0, .int .u8 0, .int .u8 0, .int .u8 (IntKind.u8.wrap (n / 16777216)), .int .u8 (IntKind.u8.wrap (n / 65536)), .int .u8 (IntKind.u8.wrap (n / 256)), .int .u8 (IntKind.u8.wrap ((n.natAbs : Nat) : Int))])] [] [] 1 g (0 + 3 * 1) [.int .u8 (Go.bits .or .u8 0 (IntKind.u8.wrap z)), .int .u8 0, .int .u8 0, .int .u8 0, .int .u8 (IntKind.u8.wrap (n / 16777216)), .int .u8 (IntKind.u8.wrap (n / 65536)), .int .u8 (IntKind.u8.wrap (n / 256)), .int .u8 (IntKind.u8.wrap ((n.natAbs : Nat) : Int))] (.int .u8 (IntKind.u8.wrap (n / 4294967296))) [.int .u8 (Go.bits .or .u8 0 (IntKind.u8.wrap z)), .int .u8 0, .int .u8 0, .int .u8 (IntKind.u8.wrap (n / 4294967296)), .int .u8 (IntKind.u8.wrap (n / 16777216)), .int .u8 (IntKind.u8.wrap (n / 65536)), .int .u8 (IntKind.u8.wrap (n / 256)), .int .u8 (IntKind.u8.wrap ((n.natAbs : Nat) : Int))] tbOk (by kernel_rfl) rfl rfl (one_int _ _) (by simp) rfl ?_
      refine W.shr [] .u64 .u64 (n / 4294967296) 8 (n / 1099511627776) (by kernel_rfl) (by decide) (by rw [shr8]; omega) ?_
      refine W.ia [82] 1 g 0 8 8 .i64 2 2 rfl tbOk (by kernel_rfl) (by decide) ?_
      refine W.stn [] [(g, [.int .u8 (Go.bits .or .u8 0 (IntKind.u8.wrap z)), .int .u8 0, .int .u8 0, .int .u8 (IntKind.u8.wrap (n / 4294967296)), .int .u8 (IntKind.u8.wrap (n / 16777216)), .int .u8 (IntKind.u8.wrap (n / 65536)), .int .u8 (IntKind.u8.wrap (n / 256)), .int .u8 (IntKind.u8.wrap ((n.natAbs : Nat) : Int))])] [] [] 1 g (0 + 2 * 1) [.int .u8 (Go.bits .or .u8 0 (IntKind.u8.wrap z)), .int .u8 0, .int .u8 0, .int .u8 (IntKind.u8.wrap (n / 4294967296)), .int .u8 (IntKind.u8.wrap (n / 16777216)), .int .u8 (IntKind.u8.wrap (n / 65536)), .int .u8 (IntKind.u8.wrap (n / 256)), .int .u8 (IntKind.u8.wrap ((n.natAbs : Nat) : Int))] (.int .u8 (IntKind.u8.wrap (n / 1099511627776))) [.int .u8 (Go.bits .or .u8 0 (IntKind.u8.wrap z)), .int .u8 0, .int .u8 (IntKind.u8.wrap (n / 1099511627776)), .int .u8 (IntKind.u8.wrap (n / 4294967296)), .int .u8 (IntKind.u8.wrap (n / 16777216)), .int .u8 (IntKind.u8.wrap (n / 65536)), .int .u8 (IntKind.u8.wrap (n / 256)), .int .u8 (IntKind.u8.wrap ((n.natAbs : Nat) : Int))] tbOk (by kernel_rfl) rfl rfl (one_int _ _) (by simp) rfl ?_
      refine W.shr [] .u64 .u64 (n / 1099511627776) 8 (n / 281474976710656) (by kernel_rfl) (by decide) (by rw [shr8]; omega) ?_
      refine W.ia [82] 1 g 0 8 8 .i64 1 1 rfl tbOk (by kernel_rfl) (by decide) ?_
      refine W.stn [] [(g, [.int .u8 (Go.bits .or .u8 0 (IntKind.u8.wrap z)), .int .u8 0, .int .u8 (IntKind.u8.wrap (n / 1099511627776)), .int .u8 (IntKind.u8.wrap (n / 4294967296)), .int .u8 (IntKind.u8.wrap (n / 16777216)), .int .u8 (IntKind.u8.wrap (n / 65536)), .int .u8 (IntKind.u8.wrap (n / 256)), .int .u8 (IntKind.u8.wrap ((n.natAbs : Nat) : Int))])] [] [] 1 g (0 + 1 * 1) [.int .u8 (Go.bits .or .u8 0 (IntKind.u8.wrap z)), .int .u8 0, .int .u8 (IntKind.u8.wrap (n / 1099511627776)), .int .u8 (IntKind.u8.wrap (n / 4294967296)), .int .u8 (IntKind.u8.wrap (n / 16777216)), .int .u8 (IntKind.u8.wrap (n / 65536)), .int .u8 (IntKind.u8.wrap (n / 256)), .int .u8 (IntKind.u8.wrap ((n.natAbs : Nat) : Int))] (.int .u8 (IntKind.u8.wrap (n / 281474976710656))) [.int .u8 (Go.bits .or .u8 0 (IntKind.u8.wrap z)), .int .u8 (IntKind.u8.wrap (n / 281474976710656)), .int .u8 (IntKind.u8.wrap (n / 1099511627776)), .int .u8 (IntKind.u8.wrap (n / 4294967296)), .int .u8 (IntKind.u8.wrap (n / 16777216)), .int .u8 (IntKind.u8.wrap (n / 65536)), .int .u8 (IntKind.u8.wrap (n / 256)), .int .u8 (IntKind.u8.wrap ((n.natAbs : Nat) : Int))] tbOk (by kernel_rfl) rfl rfl (one_int _ _) (by simp) rfl ?_
      refine W.shr [] .u64 .u64 (n / 281474976710656) 8 (n / 72057594037927936) (by kernel_rfl) (by decide) (by rw [shr8]; omega) ?_
      refine W.pubr [] [] g [.int .u8 (Go.bits .or .u8 0 (IntKind.u8.wrap z)), .int .u8 (IntKind.u8.wrap (n / 281474976710656)), .int .u8 (IntKind.u8.wrap (n / 1099511627776)), .int .u8 (IntKind.u8.wrap (n / 4294967296)), .int .u8 (IntKind.u8.wrap (n / 16777216)), .int .u8 (IntKind.u8.wrap (n / 65536)), .int .u8 (IntKind.u8.wrap (n / 256)), .int .u8 (IntKind.u8.wrap ((n.natAbs : Nat) : Int))] (by kernel_rfl) (by kernel_rfl) ?_
      refine W.r [82] (.tuple #[.slice (some ⟨g, 0, none⟩) 8 8, .int .i64 0]) (by kernel_rfl) ⟨_, hEnc, .inr ⟨_, some ⟨g, 0, none⟩, 8, rfl, rfl, ebytes_ok _ (by omega) _, rfl, Nat.le_refl _, rfl⟩⟩ (entRA (b := g) (fun i v hv => ?_))
      have hrow : ([.int .u8 (Go.bits .or .u8 0 (IntKind.u8.wrap z)), .int .u8 (IntKind.u8.wrap (n / 281474976710656)), .int .u8 (IntKind.u8.wrap (n / 1099511627776)), .int .u8 (IntKind.u8.wrap (n / 4294967296)), .int .u8 (IntKind.u8.wrap (n / 16777216)), .int .u8 (IntKind.u8.wrap (n / 65536)), .int .u8 (IntKind.u8.wrap (n / 256)), .int .u8 (IntKind.u8.wrap ((n.natAbs : Nat) : Int))] : List Value) = (ebytes false e n).map (Value.int .u8) := by
        simp only [ebytes, List.map_cons, List.map_nil, IntKind.wrap_u8, hnn, hz, ebor0 e (by omega)]
      rw [hrow]
      exact hv
-->enc
end
end Go.Proofs.Ythjhcddkdplegaa
