
/- Numbers of eight bytes: what bytes mean; the contracts of real and of its reference. -/
import Derived.Test.YthjhcddkdplegaaFr
import Derived.Test.YthjhcddkdplegaaRefT
import Derived.Test.YthjhcddkdplegaaVu
import Derived.Laws.BitsLemmas
import Derived.Laws.Bits64
set_option linter.unusedSimpArgs false
set_option linter.unusedVariables false
namespace Go.Proofs.Ythjhcddkdplegaa
open Go.RowKit Go.IntWalk

/-- Two to a power. -/
def pw (k : Int) : Rat := (2 : Rat) ^ k
theorem two_ne : (2 : Rat) ≠ 0 := by decide
theorem pw_add (a b : Int) : pw (a + b) = pw a * pw b := Rat.zpow_add two_ne a b
theorem pw_pos (a : Int) : 0 < pw a := Rat.zpow_pos (by decide)
theorem pw_nat (k : Nat) : pw (k : Int) = (((2 ^ k : Nat) : Int) : Rat) := by
  unfold pw
  rw [Rat.zpow_natCast]
  simp
theorem pw_neg (k : Nat) : pw (-(k : Int)) = Rat.divInt 1 ((2 ^ k : Nat) : Int) := by
  unfold pw
  rw [Rat.zpow_neg, Rat.zpow_natCast, Rat.divInt_eq_div]
  simp [Rat.div_def]

/-- The number of a row of bytes. -/
def be (l : List Int) : Int := l.foldl (fun m z => 256 * m + z) 0

theorem wraps_u64 (n : Int) (h₀ : 0 ≤ n) (h₁ : n < 2 ^ 64) : IntKind.u64.wrap n = n := by
  rw [IntKind.wrap_u64]
  exact Int.emod_eq_of_lt h₀ (by simpa using h₁)
theorem u8_and127 {x : Int} (h₀ : 0 ≤ x) (h₁ : x < 256) : Go.bits .and .u8 x 127 = x % 128 := bits_mask .u8 8 (by decide) wraps_u8 7 (by decide) x h₀ h₁
theorem or_byte {m x : Int} (h0 : 0 ≤ m) (h1 : m < 72057594037927936) (h2 : 0 ≤ x) (h3 : x < 256) : Go.bits .or .u64 (256 * m) (IntKind.u64.wrap x) = 256 * m + x := by
  rw [wraps_u64 x h2 (by simp; omega)]
  exact bits_join .u64 64 (by decide) wraps_u64 8 (256 * m) x (by omega) (by simp) (by simp; omega) h2 (by simpa using h3) (by simp; omega)
theorem shl_step {m x : Int} (h0 : 0 ≤ m) (h1 : m < 281474976710656) (h2 : 0 ≤ x) (h3 : x < 256) :
    IntKind.u64.wrap (Go.bits .or .u64 (256 * m) (IntKind.u64.wrap x) * 2 ^ (min (8 : Int).toNat IntKind.u64.bits)) = 256 * (256 * m + x) := by
  rw [or_byte h0 (by omega) h2 h3, show (min (8 : Int).toNat IntKind.u64.bits) = 8 by decide]
  rw [wraps_u64 _ (by simp; omega) (by simp; omega)]
  simp
  omega

/-- What eight bytes mean. -/
def rval (zs : List Int) : Rat := if zs.length = 8 then (if 127 < zs.getD 0 0 then -1 else 1) * (be (zs.drop 1) : Rat) * pw (4 * (zs.getD 0 0 % 128 - 78)) else 0
def derr (zs : List Int) : Int := if zs.length = 8 then 0 else 3
def Bytes (zs : List Int) : Prop := ∀ z ∈ zs, 0 ≤ z ∧ z < 256

theorem two_posI (n : Nat) : (0 : Int) < ((2 ^ n : Nat) : Int) := Int.natCast_pos.2 (Nat.two_pow_pos n)
section
variable {T : Tb} {Γ : List Fact}
theorem RA.rd (b off : Nat) {xs : List Value} [h : Has (RA (some ⟨b, off, none⟩)) xs Γ] (k : Nat) {v : Value} (hv : xs[k]? = some v) : ∀ I w, DataOK T I w → Holds Γ I w → w.cell? ⟨b, off + k * 1, none⟩ = some v := fun I w _ hh => by
  rw [Nat.mul_one]
  exact RA.cell (h.p hh) hv
theorem RA.rds (b off : Nat) {xs : List Value} [h : Has (RA (some ⟨b, off, none⟩)) xs Γ] (k : Nat) {cs : List Value} (hv : ∀ (j : Nat) (v : Value), cs[j]? = some v → xs[k + j]? = some v) : ∀ I w, DataOK T I w → Holds Γ I w → ∀ j v, cs[j]? = some v → w.cell? ⟨b, off + k * 1 + j, none⟩ = some v := fun I w _ hh j v hj => by
  rw [Nat.mul_one, Nat.add_assoc]
  exact RA.cell (h.p hh) (hv j v hj)
end

section
variable {Γ : List Fact} {L M : Nat}

theorem p_upz (s : Sl) (z : Int) (k : Nat) (hz : z = k) {x : Nat} [ha : Has (NF s) (L, x) Γ] (hk : k ≤ 65536) (hL : L ≤ 1000000000000 := by omega) :
    PCalls tb Try.prog 63 [mv s, .int .i64 z] Γ (fun v Δ => ∃ u : Sl, v = .tuple #[mv u, .int .i64 0] ∧ Δ = [NF u (L + k / 32 + 1, x * 2 ^ k)]) := by
  subst hz
  exact p_up s k hk hL

theorem p_power (z k : Int) (hz : z = k) (h1 : -400 ≤ k) (h2 : k ≤ 400) : PCalls tb Try.prog 28 [.int .i64 z] Γ (QPost 20 (pw k)) := by
  subst hz
  refine PCalls.of_W tbOk Try.func28 rfl (by kernel_rfl) ?_
  refine W.d [] 10 (decide (z < 0)) (by kernel_rfl) (fun hb => ?_) (fun hb => ?_)
  · have hk := of_decide_eq_true hb
    refine W.cl [10] (by kernel_rfl) (p_of' 1 1 rfl (by decide)) ?_
    rintro _ _ ⟨u1, rfl, rfl⟩
    refine W.cl [] (by kernel_rfl) (p_upz u1 ((IntKind.i64.wrap (0 - z))) (-z).toNat (by rw [IntKind.wrap_i64]; omega) (by omega)) ?_
    rintro _ _ ⟨u2, rfl, rfl⟩
    refine W.cl [] (by kernel_rfl) (p_zof 1 (by omega) (by omega)) ?_
    rintro _ _ ⟨u3, d3, rfl, rfl⟩
    refine W.cl [] (by kernel_rfl) (p_zbig u2) ?_
    rintro _ _ ⟨u4, d4, rfl, rfl⟩
    refine W.cl [] (by kernel_rfl) (p_qmake u3 d3 u4 d4 (by have := Nat.two_pow_pos (-z).toNat; omega)) ?_
    rintro _ _ ⟨n5, a5, m5, b5, rfl, rfl⟩
    refine W.r [] (qv n5 a5 m5 b5) (by kernel_rfl) ⟨n5, a5, m5, b5, rfl, rfl⟩ (entQ (by omega) ?_)
    have := pw_neg (-z).toNat
    rw [show (-(((-z).toNat : Nat) : Int)) = z by omega] at this
    rw [this, Nat.one_mul]
  · have hk := of_decide_eq_false hb
    refine W.cl [10] (by kernel_rfl) (p_of' 1 1 rfl (by decide)) ?_
    rintro _ _ ⟨u6, rfl, rfl⟩
    refine W.cl [] (by kernel_rfl) (p_upz u6 z z.toNat (by omega) (by omega)) ?_
    rintro _ _ ⟨u7, rfl, rfl⟩
    refine W.cl [] (by kernel_rfl) (p_zbig u7) ?_
    rintro _ _ ⟨u8, d8, rfl, rfl⟩
    refine W.cl [] (by kernel_rfl) (p_qwhole u8 d8) ?_
    rintro _ _ ⟨n9, a9, m9, b9, rfl, rfl⟩
    refine W.r [] (qv n9 a9 m9 b9) (by kernel_rfl) ⟨n9, a9, m9, b9, rfl, rfl⟩ (entQ (by omega) ?_)
    have := pw_nat z.toNat
    rw [show ((z.toNat : Nat) : Int) = z by omega] at this
    rw [this, Nat.one_mul]

theorem r_two9z (z : Int) (K : Nat) (hz : z = K) (hK : K ≤ 9000) : PCalls tb Try.prog 60 [.int .i64 z] Γ (RPost 901 (2 ^ K)) := by
  subst hz
  exact r_two9 K hK

theorem r_sixteen (z k : Int) (hz : z = k) (h1 : -100 ≤ k) (h2 : k ≤ 100) : PCalls tb Try.prog 35 [.int .i64 z] Γ (PPost 901 (pw (4 * k))) := by
  subst hz
  refine PCalls.of_W tbOk Try.func35 rfl (by kernel_rfl) ?_
  refine W.cl [] (by kernel_rfl) (p_yof 1 (by omega) (by omega)) ?_
  rintro _ _ ⟨S1, t1, rfl, rfl⟩
  refine W.d [] 6 (decide (z < 0)) (by kernel_rfl) (fun hb => ?_) (fun hb => ?_)
  · have hk := of_decide_eq_true hb
    refine W.cl [6] (by kernel_rfl) (r_two9z ((IntKind.i64.wrap (-4 * z))) (-(4 * z)).toNat (by rw [IntKind.wrap_i64]; omega) (by omega)) ?_
    rintro _ _ ⟨u2, rfl, rfl⟩
    refine W.cl [] (by kernel_rfl) (p_ymade 1 ((2 ^ (-(4 * z)).toNat : Nat) : Int) u2 ⟨Int.natAbs_natCast _, fun _ => (Int.sign_eq_one_of_pos (two_posI _)).symm⟩) ?_
    rintro _ _ ⟨S3, t3, rfl, rfl⟩
    refine W.r [] (pv S1 t1 S3 t3) (by kernel_rfl) ⟨S1, t1, S3, t3, rfl, rfl⟩ (entYP (by omega) (by omega) (two_posI _) ?_)
    have := pw_neg (-(4 * z)).toNat
    rw [show (-(((-(4 * z)).toNat : Nat) : Int)) = 4 * z by omega] at this
    exact this
  · have hk := of_decide_eq_false hb
    refine W.cl [6] (by kernel_rfl) (r_two9z ((IntKind.i64.wrap (4 * z))) (4 * z).toNat (by rw [IntKind.wrap_i64]; omega) (by omega)) ?_
    rintro _ _ ⟨u4, rfl, rfl⟩
    refine W.cl [] (by kernel_rfl) (p_ymade 1 ((2 ^ (4 * z).toNat : Nat) : Int) u4 ⟨Int.natAbs_natCast _, fun _ => (Int.sign_eq_one_of_pos (two_posI _)).symm⟩) ?_
    rintro _ _ ⟨S5, t5, rfl, rfl⟩
    refine W.r [] (pv S5 t5 S1 t1) (by kernel_rfl) ⟨S5, t5, S1, t1, rfl, rfl⟩ (entYP (by omega) (by omega) (by omega) ?_)
    have := pw_nat (4 * z).toNat
    rw [show (((4 * z).toNat : Nat) : Int) = 4 * z by omega] at this
    rw [this, q_divInt1]
--<dec
theorem p_rdec (ao : Option Addr) (n c : Nat) (zs : List Int) [h : Has (RA ao) (zs.map (Value.int .u8)) Γ] (hn : n = zs.length) (hz : Bytes zs) (hc : n ≤ c) :
    PCalls tb Try.prog 9 [.slice ao n c] Γ (fun v Δ => ∃ (n : Sl) (nb : Bool) (d : Sl) (db : Bool), v = .tuple #[qv n nb d db, .int .i64 (derr zs)] ∧ Δ = [QF n nb d db (50, rval zs)]) := by
  refine PCalls.of_W tbOk Try.func9 rfl (by kernel_rfl) ?_
  by_cases h8 : zs.length = 8
  · obtain ⟨z0, z1, z2, z3, z4, z5, z6, z7, rfl⟩ : ∃ z0 z1 z2 z3 z4 z5 z6 z7, zs = [z0, z1, z2, z3, z4, z5, z6, z7] := by
      match zs, h8 with
      | [z0, z1, z2, z3, z4, z5, z6, z7], _ => exact ⟨_, _, _, _, _, _, _, _, rfl⟩
    subst hn
    refine W.ra ao rfl (by simp) (fun ba of e => ?_)
    subst e
    simp only [List.length_cons, List.length_nil, Nat.zero_add, Nat.reduceAdd] at *
    have b0 := hz z0 (by simp)
    have b1 := hz z1 (by simp)
    have b2 := hz z2 (by simp)
    have b3 := hz z3 (by simp)
    have b4 := hz z4 (by simp)
    have b5 := hz z5 (by simp)
    have b6 := hz z6 (by simp)
    have b7 := hz z7 (by simp)
    obtain ⟨m1, e1⟩ : ∃ m : Int, m = 256 * 0 + z1 := ⟨_, rfl⟩
    have c1 : 0 ≤ m1 ∧ m1 < 256 := by omega
    obtain ⟨m2, e2⟩ : ∃ m : Int, m = 256 * m1 + z2 := ⟨_, rfl⟩
    have c2 : 0 ≤ m2 ∧ m2 < 65536 := by omega
    obtain ⟨m3, e3⟩ : ∃ m : Int, m = 256 * m2 + z3 := ⟨_, rfl⟩
    have c3 : 0 ≤ m3 ∧ m3 < 16777216 := by omega
    obtain ⟨m4, e4⟩ : ∃ m : Int, m = 256 * m3 + z4 := ⟨_, rfl⟩
    have c4 : 0 ≤ m4 ∧ m4 < 4294967296 := by omega
    obtain ⟨m5, e5⟩ : ∃ m : Int, m = 256 * m4 + z5 := ⟨_, rfl⟩
    have c5 : 0 ≤ m5 ∧ m5 < 1099511627776 := by omega
    obtain ⟨m6, e6⟩ : ∃ m : Int, m = 256 * m5 + z6 := ⟨_, rfl⟩
    have c6 : 0 ≤ m6 ∧ m6 < 281474976710656 := by omega
    obtain ⟨m7, e7⟩ : ∃ m : Int, m = 256 * m6 + z7 := ⟨_, rfl⟩
    have c7 : 0 ≤ m7 ∧ m7 < 72057594037927936 := by omega
    have hbe : be ([z0, z1, z2, z3, z4, z5, z6, z7].drop 1) = m7 := by
      simp only [be, List.drop_succ_cons, List.drop_zero, List.foldl_cons, List.foldl_nil]
      rw [e7, e6, e5, e4, e3, e2, e1]
    refine W.sls [10] 1 ba of 8 c (some (.int .i64 ((1 : Nat) : Int))) none 1 8 tbOk (by kernel_rfl) (.inl rfl) (.inr ⟨rfl, rfl⟩) (by decide) (by omega) (by omega) ?_
    refine W.s2a [] 7 (some ⟨ba, of + 1 * 1, none⟩) (8 - 1) (c - 1) tbOk (by kernel_rfl) (by decide) ?_
    refine W.lds [] ba (of + 1 * 1) [.int .u8 z1, .int .u8 z2, .int .u8 z3, .int .u8 z4, .int .u8 z5, .int .u8 z6, .int .u8 z7] tbOk (by kernel_rfl) (RA.rds ba of 1 (fun j v hv => by rw [Nat.add_comm]; exact hv)) ?_
    refine W.unr [] 8 (by kernel_rfl) ?_
    refine W.shl [17] .u64 .u64 0 8 (256 * 0) (by kernel_rfl) (by decide) (by decide) ?_
    refine W.shl [17] .u64 .u64 (Go.bits .or .u64 (256 * 0) (IntKind.u64.wrap z1)) 8 (256 * m1) (by kernel_rfl) (by decide) (by rw [shl_step (by omega) (by omega) b1.1 b1.2, e1]) ?_
    refine W.shl [17] .u64 .u64 (Go.bits .or .u64 (256 * m1) (IntKind.u64.wrap z2)) 8 (256 * m2) (by kernel_rfl) (by decide) (by rw [shl_step (by omega) (by omega) b2.1 b2.2, e2]) ?_
    refine W.shl [17] .u64 .u64 (Go.bits .or .u64 (256 * m2) (IntKind.u64.wrap z3)) 8 (256 * m3) (by kernel_rfl) (by decide) (by rw [shl_step (by omega) (by omega) b3.1 b3.2, e3]) ?_
    refine W.shl [17] .u64 .u64 (Go.bits .or .u64 (256 * m3) (IntKind.u64.wrap z4)) 8 (256 * m4) (by kernel_rfl) (by decide) (by rw [shl_step (by omega) (by omega) b4.1 b4.2, e4]) ?_
    refine W.shl [17] .u64 .u64 (Go.bits .or .u64 (256 * m4) (IntKind.u64.wrap z5)) 8 (256 * m5) (by kernel_rfl) (by decide) (by rw [shl_step (by omega) (by omega) b5.1 b5.2, e5]) ?_
    refine W.shl [17] .u64 .u64 (Go.bits .or .u64 (256 * m5) (IntKind.u64.wrap z6)) 8 (256 * m6) (by kernel_rfl) (by decide) (by rw [shl_step (by omega) (by omega) b6.1 b6.2, e6]) ?_
    refine W.ia [17] 1 ba of 8 c .i64 0 0 rfl tbOk (by kernel_rfl) (by decide) ?_
    refine W.ld [] 1 ba (of + 0 * 1) (.int .u8 z0) tbOk (by kernel_rfl) (RA.rd ba of 0 rfl) ?_
    refine W.cl [] (by kernel_rfl) (p_of' (Go.bits .or .u64 (256 * m6) (IntKind.u64.wrap z7)) m7.toNat (by rw [or_byte (by omega) (by omega) b7.1 b7.2]; omega) (by omega)) ?_
    rintro _ _ ⟨u13, rfl, rfl⟩
    refine W.cl [] (by kernel_rfl) (p_zbig u13) ?_
    rintro _ _ ⟨u14, d14, rfl, rfl⟩
    refine W.cl [] (by kernel_rfl) (p_qwhole u14 d14) ?_
    rintro _ _ ⟨n15, a15, m15, b15, rfl, rfl⟩
    refine W.cl [] (by kernel_rfl) (p_power (IntKind.i64.wrap (4 * IntKind.i64.wrap (IntKind.i64.wrap (Go.bits .and .u8 z0 127) - 78))) (4 * (z0 % 128 - 78)) (by rw [u8_and127 b0.1 b0.2]; simp only [IntKind.wrap_i64]; omega) (by omega) (by omega)) ?_
    rintro _ _ ⟨n16, a16, m16, b16, rfl, rfl⟩
    refine W.cl [] (by kernel_rfl) (p_qmul n15 a15 m15 b15 n16 a16 m16 b16) ?_
    rintro _ _ ⟨n17, a17, m17, b17, rfl, rfl⟩
    refine W.ia [] 1 ba of 8 c .i64 0 0 rfl tbOk (by kernel_rfl) (by decide) ?_
    refine W.ld [] 1 ba (of + 0 * 1) (.int .u8 z0) tbOk (by kernel_rfl) (RA.rd ba of 0 rfl) ?_
    have hm7 : ((m7.toNat : Nat) : Int) = m7 := by omega
    refine W.d [] 41 (decide (z0 > 127)) (by kernel_rfl) (fun hb => ?_) (fun hb => ?_)
    · have hk := of_decide_eq_true hb
      refine W.cl [41] (by kernel_rfl) (p_qneg n17 a17 m17 b17) ?_
      rintro _ _ ⟨n20, a20, m20, b20, rfl, rfl⟩
      refine W.r [] (.tuple #[qv n20 a20 m20 b20, .int .i64 0]) (by kernel_rfl) ⟨n20, a20, m20, b20, rfl, rfl⟩ (entQ (by omega) ?_)
      unfold rval
      rw [if_pos (show ([z0, z1, z2, z3, z4, z5, z6, z7] : List Int).length = 8 from rfl), hbe, hm7]
      show -((m7 : Rat) * _) = (if 127 < z0 then (-1 : Rat) else 1) * _ * pw (4 * (z0 % 128 - 78))
      rw [if_pos hk]
      grind
    · have hk := of_decide_eq_false hb
      refine W.r [41] (.tuple #[qv n17 a17 m17 b17, .int .i64 0]) (by kernel_rfl) ⟨n17, a17, m17, b17, rfl, rfl⟩ (entQ (by omega) ?_)
      unfold rval
      rw [if_pos (show ([z0, z1, z2, z3, z4, z5, z6, z7] : List Int).length = 8 from rfl), hbe, hm7]
      show (m7 : Rat) * _ = (if 127 < z0 then (-1 : Rat) else 1) * _ * pw (4 * (z0 % 128 - 78))
      rw [if_neg (by omega)]
      grind
  · have hd : rval zs = 0 := by unfold rval; rw [if_neg h8]
    refine W.dt [] 10 (((n : Nat) : Int) != 8) (by kernel_rfl) (by simp; omega) ?_
    refine W.r [10] (.tuple #[qv ⟨none, 0, 0⟩ false ⟨none, 0, 0⟩ false, .int .i64 3]) (by kernel_rfl) ⟨_, _, _, _, by rw [derr, if_neg h8], rfl⟩ (by rw [hd]; exact entQ0)

theorem rstep {m x r : Int} (h0 : 0 ≤ m) (h1 : m < 72057594037927936) (h2 : 0 ≤ x) (h3 : x < 256) (h : r = 256 * m + x) : IntKind.u64.wrap (IntKind.u64.wrap (256 * m) + IntKind.u64.wrap x) = r := by
  simp only [IntKind.wrap_u64]
  omega
theorem r_rdec (ao : Option Addr) (n c : Nat) (zs : List Int) [h : Has (RA ao) (zs.map (Value.int .u8)) Γ] (hn : n = zs.length) (hz : Bytes zs) (hc : n ≤ c) :
    PCalls tb Try.prog 10 [.slice ao n c] Γ (fun v Δ => ∃ (S : Int) (s : Sl) (R : Int) (t : Sl), v = .tuple #[pv S s R t, .int .i64 (derr zs)] ∧ Δ = [PF S s R t (1000, rval zs)]) := by
  refine PCalls.of_W tbOk Try.func10 rfl (by kernel_rfl) ?_
  by_cases h8 : zs.length = 8
  · obtain ⟨z0, z1, z2, z3, z4, z5, z6, z7, rfl⟩ : ∃ z0 z1 z2 z3 z4 z5 z6 z7, zs = [z0, z1, z2, z3, z4, z5, z6, z7] := by
      match zs, h8 with
      | [z0, z1, z2, z3, z4, z5, z6, z7], _ => exact ⟨_, _, _, _, _, _, _, _, rfl⟩
    subst hn
    refine W.ra ao rfl (by simp) (fun ba of e => ?_)
    subst e
    simp only [List.length_cons, List.length_nil, Nat.zero_add, Nat.reduceAdd] at *
    have b0 := hz z0 (by simp)
    have b1 := hz z1 (by simp)
    have b2 := hz z2 (by simp)
    have b3 := hz z3 (by simp)
    have b4 := hz z4 (by simp)
    have b5 := hz z5 (by simp)
    have b6 := hz z6 (by simp)
    have b7 := hz z7 (by simp)
    obtain ⟨m1, e1⟩ : ∃ m : Int, m = 256 * 0 + z1 := ⟨_, rfl⟩
    have c1 : 0 ≤ m1 ∧ m1 < 256 := by omega
    obtain ⟨m2, e2⟩ : ∃ m : Int, m = 256 * m1 + z2 := ⟨_, rfl⟩
    have c2 : 0 ≤ m2 ∧ m2 < 65536 := by omega
    obtain ⟨m3, e3⟩ : ∃ m : Int, m = 256 * m2 + z3 := ⟨_, rfl⟩
    have c3 : 0 ≤ m3 ∧ m3 < 16777216 := by omega
    obtain ⟨m4, e4⟩ : ∃ m : Int, m = 256 * m3 + z4 := ⟨_, rfl⟩
    have c4 : 0 ≤ m4 ∧ m4 < 4294967296 := by omega
    obtain ⟨m5, e5⟩ : ∃ m : Int, m = 256 * m4 + z5 := ⟨_, rfl⟩
    have c5 : 0 ≤ m5 ∧ m5 < 1099511627776 := by omega
    obtain ⟨m6, e6⟩ : ∃ m : Int, m = 256 * m5 + z6 := ⟨_, rfl⟩
    have c6 : 0 ≤ m6 ∧ m6 < 281474976710656 := by omega
    obtain ⟨m7, e7⟩ : ∃ m : Int, m = 256 * m6 + z7 := ⟨_, rfl⟩
    have c7 : 0 ≤ m7 ∧ m7 < 72057594037927936 := by omega
    have hbe : be ([z0, z1, z2, z3, z4, z5, z6, z7].drop 1) = m7 := by
      simp only [be, List.drop_succ_cons, List.drop_zero, List.foldl_cons, List.foldl_nil]
      rw [e7, e6, e5, e4, e3, e2, e1]
    have f1 : IntKind.u64.wrap (IntKind.u64.wrap (256 * 0) + IntKind.u64.wrap z1) = m1 := rstep (by omega) (by omega) b1.1 b1.2 e1
    have f2 : IntKind.u64.wrap (IntKind.u64.wrap (256 * m1) + IntKind.u64.wrap z2) = m2 := rstep (by omega) (by omega) b2.1 b2.2 e2
    have f3 : IntKind.u64.wrap (IntKind.u64.wrap (256 * m2) + IntKind.u64.wrap z3) = m3 := rstep (by omega) (by omega) b3.1 b3.2 e3
    have f4 : IntKind.u64.wrap (IntKind.u64.wrap (256 * m3) + IntKind.u64.wrap z4) = m4 := rstep (by omega) (by omega) b4.1 b4.2 e4
    have f5 : IntKind.u64.wrap (IntKind.u64.wrap (256 * m4) + IntKind.u64.wrap z5) = m5 := rstep (by omega) (by omega) b5.1 b5.2 e5
    have f6 : IntKind.u64.wrap (IntKind.u64.wrap (256 * m5) + IntKind.u64.wrap z6) = m6 := rstep (by omega) (by omega) b6.1 b6.2 e6
    have f7 : IntKind.u64.wrap (IntKind.u64.wrap (256 * m6) + IntKind.u64.wrap z7) = m7 := rstep (by omega) (by omega) b7.1 b7.2 e7
    refine W.unr [10] 8 (by kernel_rfl) ?_
    refine W.ia [13] 1 ba of 8 c .i64 1 1 rfl tbOk (by kernel_rfl) (by decide) ?_
    refine W.ld [] 1 ba (of + 1 * 1) (.int .u8 z1) tbOk (by kernel_rfl) (RA.rd ba of 1 rfl) ?_
    refine W.ia [13] 1 ba of 8 c .i64 2 2 rfl tbOk (by kernel_rfl) (by decide) ?_
    refine W.ld [] 1 ba (of + 2 * 1) (.int .u8 z2) tbOk (by kernel_rfl) (RA.rd ba of 2 rfl) ?_
    refine W.ia [13] 1 ba of 8 c .i64 3 3 rfl tbOk (by kernel_rfl) (by decide) ?_
    refine W.ld [] 1 ba (of + 3 * 1) (.int .u8 z3) tbOk (by kernel_rfl) (RA.rd ba of 3 rfl) ?_
    refine W.ia [13] 1 ba of 8 c .i64 4 4 rfl tbOk (by kernel_rfl) (by decide) ?_
    refine W.ld [] 1 ba (of + 4 * 1) (.int .u8 z4) tbOk (by kernel_rfl) (RA.rd ba of 4 rfl) ?_
    refine W.ia [13] 1 ba of 8 c .i64 5 5 rfl tbOk (by kernel_rfl) (by decide) ?_
    refine W.ld [] 1 ba (of + 5 * 1) (.int .u8 z5) tbOk (by kernel_rfl) (RA.rd ba of 5 rfl) ?_
    refine W.ia [13] 1 ba of 8 c .i64 6 6 rfl tbOk (by kernel_rfl) (by decide) ?_
    refine W.ld [] 1 ba (of + 6 * 1) (.int .u8 z6) tbOk (by kernel_rfl) (RA.rd ba of 6 rfl) ?_
    refine W.ia [13] 1 ba of 8 c .i64 7 7 rfl tbOk (by kernel_rfl) (by decide) ?_
    refine W.ld [] 1 ba (of + 7 * 1) (.int .u8 z7) tbOk (by kernel_rfl) (RA.rd ba of 7 rfl) ?_
    refine W.ia [13] 1 ba of 8 c .i64 0 0 rfl tbOk (by kernel_rfl) (by decide) ?_
    refine W.ld [] 1 ba (of + 0 * 1) (.int .u8 z0) tbOk (by kernel_rfl) (RA.rd ba of 0 rfl) ?_
    refine W.d [] 27 (decide (z0 ≥ 128)) (by kernel_rfl) (fun hb => ?_) (fun hb => ?_)
    · have hk := of_decide_eq_true hb
      refine W.cl [27] (by kernel_rfl) (r_of' (IntKind.u64.wrap (IntKind.u64.wrap (256 * IntKind.u64.wrap (IntKind.u64.wrap (256 * IntKind.u64.wrap (IntKind.u64.wrap (256 * IntKind.u64.wrap (IntKind.u64.wrap (256 * IntKind.u64.wrap (IntKind.u64.wrap (256 * IntKind.u64.wrap (IntKind.u64.wrap (256 * IntKind.u64.wrap (IntKind.u64.wrap (256 * 0) + IntKind.u64.wrap z1)) + IntKind.u64.wrap z2)) + IntKind.u64.wrap z3)) + IntKind.u64.wrap z4)) + IntKind.u64.wrap z5)) + IntKind.u64.wrap z6)) + IntKind.u64.wrap z7)) m7.toNat (by rw [f1, f2, f3, f4, f5, f6, f7]; omega) (by omega)) ?_
      rintro _ _ ⟨u17, rfl, rfl⟩
      refine W.cl [] (by kernel_rfl) (p_ymade (-1) ((-1) * m7) u17 ⟨by omega, fun h0 => ?_⟩) ?_
      · rw [Int.sign_mul, Int.sign_eq_one_of_pos (show 0 < m7 by omega)]
        decide
      rintro _ _ ⟨S18, t18, rfl, rfl⟩
      refine W.cl [] (by kernel_rfl) (p_yof 1 (by omega) (by omega)) ?_
      rintro _ _ ⟨S19, t19, rfl, rfl⟩
      refine W.ia [] 1 ba of 8 c .i64 0 0 rfl tbOk (by kernel_rfl) (by decide) ?_
      refine W.ld [] 1 ba (of + 0 * 1) (.int .u8 z0) tbOk (by kernel_rfl) (RA.rd ba of 0 rfl) ?_
      refine W.remk [] .u8 z0 128 (z0 % 128) (by kernel_rfl) (by decide) (Int.tmod_eq_emod_of_nonneg b0.1) ?_
      refine W.cl [] (by kernel_rfl) (r_sixteen (IntKind.i64.wrap (IntKind.i64.wrap (z0 % 128) - 78)) (z0 % 128 - 78) (by simp only [IntKind.wrap_i64]; omega) (by omega) (by omega)) ?_
      rintro _ _ ⟨S23, s23, R23, t23, rfl, rfl⟩
      refine W.cx [] (by kernel_rfl) (entYP (S := S18) (s := t18) (R := S19) (t := t19) (L' := 6) (q := (((-1) * m7 : Int) : Rat)) (by omega) (by omega) (by omega) (q_divInt1 _).symm) (s_mul S18 t18 S19 t19 S23 s23 R23 t23) ?_
      rintro _ _ ⟨S24, s24, R24, t24, rfl, rfl⟩
      refine W.r [] (.tuple #[pv S24 s24 R24 t24, .int .i64 0]) (by kernel_rfl) ⟨S24, s24, R24, t24, rfl, rfl⟩ (entP (by omega) ?_)
      unfold rval
      rw [if_pos (show ([z0, z1, z2, z3, z4, z5, z6, z7] : List Int).length = 8 from rfl), hbe]
      show (((-1) * m7 : Int) : Rat) * _ = (if 127 < z0 then (-1 : Rat) else 1) * _ * pw (4 * (z0 % 128 - 78))
      rw [if_pos (by omega), Rat.intCast_mul]
      simp
    · have hk := of_decide_eq_false hb
      refine W.cl [27] (by kernel_rfl) (r_of' (IntKind.u64.wrap (IntKind.u64.wrap (256 * IntKind.u64.wrap (IntKind.u64.wrap (256 * IntKind.u64.wrap (IntKind.u64.wrap (256 * IntKind.u64.wrap (IntKind.u64.wrap (256 * IntKind.u64.wrap (IntKind.u64.wrap (256 * IntKind.u64.wrap (IntKind.u64.wrap (256 * IntKind.u64.wrap (IntKind.u64.wrap (256 * 0) + IntKind.u64.wrap z1)) + IntKind.u64.wrap z2)) + IntKind.u64.wrap z3)) + IntKind.u64.wrap z4)) + IntKind.u64.wrap z5)) + IntKind.u64.wrap z6)) + IntKind.u64.wrap z7)) m7.toNat (by rw [f1, f2, f3, f4, f5, f6, f7]; omega) (by omega)) ?_
      rintro _ _ ⟨u17, rfl, rfl⟩
      refine W.cl [] (by kernel_rfl) (p_ymade 1 (1 * m7) u17 ⟨by omega, fun h0 => ?_⟩) ?_
      · rw [Int.sign_mul, Int.sign_eq_one_of_pos (show 0 < m7 by omega)]
        decide
      rintro _ _ ⟨S18, t18, rfl, rfl⟩
      refine W.cl [] (by kernel_rfl) (p_yof 1 (by omega) (by omega)) ?_
      rintro _ _ ⟨S19, t19, rfl, rfl⟩
      refine W.ia [] 1 ba of 8 c .i64 0 0 rfl tbOk (by kernel_rfl) (by decide) ?_
      refine W.ld [] 1 ba (of + 0 * 1) (.int .u8 z0) tbOk (by kernel_rfl) (RA.rd ba of 0 rfl) ?_
      refine W.remk [] .u8 z0 128 (z0 % 128) (by kernel_rfl) (by decide) (Int.tmod_eq_emod_of_nonneg b0.1) ?_
      refine W.cl [] (by kernel_rfl) (r_sixteen (IntKind.i64.wrap (IntKind.i64.wrap (z0 % 128) - 78)) (z0 % 128 - 78) (by simp only [IntKind.wrap_i64]; omega) (by omega) (by omega)) ?_
      rintro _ _ ⟨S23, s23, R23, t23, rfl, rfl⟩
      refine W.cx [] (by kernel_rfl) (entYP (S := S18) (s := t18) (R := S19) (t := t19) (L' := 6) (q := ((1 * m7 : Int) : Rat)) (by omega) (by omega) (by omega) (q_divInt1 _).symm) (s_mul S18 t18 S19 t19 S23 s23 R23 t23) ?_
      rintro _ _ ⟨S24, s24, R24, t24, rfl, rfl⟩
      refine W.r [] (.tuple #[pv S24 s24 R24 t24, .int .i64 0]) (by kernel_rfl) ⟨S24, s24, R24, t24, rfl, rfl⟩ (entP (by omega) ?_)
      unfold rval
      rw [if_pos (show ([z0, z1, z2, z3, z4, z5, z6, z7] : List Int).length = 8 from rfl), hbe]
      show ((1 * m7 : Int) : Rat) * _ = (if 127 < z0 then (-1 : Rat) else 1) * _ * pw (4 * (z0 % 128 - 78))
      rw [if_neg (by omega), Rat.intCast_mul]
      simp
  · have hd : rval zs = 0 := by unfold rval; rw [if_neg h8]
    refine W.dt [] 10 (((n : Nat) : Int) != 8) (by kernel_rfl) (by simp; omega) ?_
    refine W.cl [10] (by kernel_rfl) (s_of 0 (by omega) (by omega)) ?_
    rintro _ _ ⟨S24, s24, R24, t24, rfl, rfl⟩
    refine W.r [] (.tuple #[pv S24 s24 R24 t24, .int .i64 3]) (by kernel_rfl) ⟨_, _, _, _, by rw [derr, if_neg h8], rfl⟩ (by rw [hd]; exact entP (by omega) (by simp))
-->dec
end
end Go.Proofs.Ythjhcddkdplegaa
