
/- Where places of other fields come to: the law's own function. -/
import Derived.Test.YtabpaiboodllbaaGreatFv
set_option linter.unusedSimpArgs false
set_option linter.unusedVariables false
namespace Go.Proofs.YtabpaiboodllbaaGreat
open Go.RowKit Go.IntWalk
section
variable {fin : VS → List Fact → Prop} {Γ : List Fact} {L M K : Nat}
abbrev zc (u : Sl) (d : Bool) : List Value := [.slice u.ao u.n u.c, .bool d]
set_option maxHeartbeats 4000000 in
theorem p_oat1 (z : Sw) (a : Qw) (b1 b2 : Nat) (u : Sl) (d : Bool) (v : Sl) (e : Bool) {S : Sn} {q : Rat} {m n : Int} {K2 : Nat} [Has (SF z) (L, S) Γ] [Has (QG a) (M, q) Γ] [Has (RowF b1) (zc u d) Γ] [Has (RowF b2) (zc v e) Γ] [Has (ZF u d) (K, m) Γ] [Has (ZF v e) (K2, n) Γ]
    (hm : 0 ≤ m) (hn : 0 ≤ n) (em : S.m = m) (en : S.n = n) (hL : L ≤ 5000 ∧ M ≤ 5000 ∧ K ≤ 5000 ∧ K2 ≤ 5000 := by omega) :
    PCalls tb Tryz.prog 57 [sv z, qw a, .pointer (some ⟨b1, 0, none⟩), .pointer (some ⟨b2, 0, none⟩)] Γ (SPost (L + max (max K K2) M + 5) (S.add ⟨m, n, -q, 0, 0, 0⟩)) := by
  refine PCalls.of_W tbOk Tryz.func57 rfl (by kernel_rfl) ?_
  refine W.ldr [] b1 0 (zc u d) tbOk (by kernel_rfl) rfl ?_
  refine W.ldr [] b2 0 (zc v e) tbOk (by kernel_rfl) rfl ?_
  refine W.cl [] (by kernel_rfl) (p_qneg a.n a.a a.m a.b) ?_
  rintro _ _ ⟨n1, a1, m1, c1, rfl, rfl⟩
  refine W.bs [] 1 ([(⟨n1, a1, m1, c1, -q⟩ : QE)].flatMap QR.cells) tbOk (by kernel_rfl) (fun B => ?_)
  refine W.cl [] (by kernel_rfl) (p_xof1 u d v e B ⟨n1, a1, m1, c1⟩ hm hn) ?_
  rintro _ _ ⟨X, rfl, rfl⟩
  refine W.cl [] (by kernel_rfl) (p_xadd (S := S) (T := ⟨m, n, -q, 0, 0, 0⟩) z X em en) ?_
  rintro _ _ ⟨Y, rfl, rfl⟩
  exact W.r [] (sv Y) (by kernel_rfl) ⟨_, rfl, rfl⟩ (entS' (by omega) rfl)
theorem p_ofarG (V : On) (t : Q5) (x y : Sw) {X Y X' Y' : Sn} {L1 : Nat} [Has (OF t) (L1, V) Γ] [Has (SF x) (L, X) Γ] [Has (SF y) (M, Y) Γ] (ho : 0 ≤ V.o ∧ V.o ≤ 7) (h2 : V.o % 2 = 0) (hb : V.b = 0) (hd : V.d = 0) (h0 : 0 ≤ X.m ∧ 0 ≤ X.n) (hmn : 2 < X.m ∨ 2 < X.n) (em : X.m = Y.m) (en : X.n = Y.n)
    (hX : V.farX X Y = X') (hY : V.farY X Y = Y') (hL : L ≤ 40 ∧ M ≤ 40 ∧ L1 ≤ 100 := by omega) :
    PCalls tb Tryz.prog 52 [otv V t, plv x y] Γ (FarPost 2000 X' Y') := by
  subst hX hY
  obtain ⟨f, o, g, a, b, c, d⟩ := V
  simp only at ho h2 hb hd
  subst hb hd
  rcases eight ho with rfl | rfl | rfl | rfl | rfl | rfl | rfl | rfl
  · cases f
    · exact p_ofarG0f g a c t x y h0 hmn em en hL
    · exact p_ofarG0t g a c t x y h0 hmn em en hL
  · exact absurd h2 (by decide)
  · cases f
    · exact p_ofarG2f g a c t x y h0 hmn em en hL
    · exact p_ofarG2t g a c t x y h0 hmn em en hL
  · exact absurd h2 (by decide)
  · cases f
    · exact p_ofarG4f g a c t x y h0 hmn em en hL
    · exact p_ofarG4t g a c t x y h0 hmn em en hL
  · exact absurd h2 (by decide)
  · cases f
    · exact p_ofarG6f g a c t x y h0 hmn em en hL
    · exact p_ofarG6t g a c t x y h0 hmn em en hL
  · exact absurd h2 (by decide)
theorem p_ofarO (V : On) (t : Q5) (x y : Sw) {X Y : Sn} {L1 : Nat} [Has (OF t) (L1, V) Γ] [Has (SF x) (L, X) Γ] [Has (SF y) (M, Y) Γ] (ho : 0 ≤ V.o ∧ V.o ≤ 7) (h2 : V.o % 2 ≠ 0) (hb : V.b = 0) (hd : V.d = 0) (h0 : 0 ≤ X.m ∧ 0 ≤ X.n) (hmn : 2 < X.m ∨ 2 < X.n) (em : X.m = Y.m) (en : X.n = Y.n)
    (hL : L ≤ 40 ∧ M ≤ 40 ∧ L1 ≤ 100 := by omega) :
    PCalls tb Tryz.prog 52 [otv V t, plv x y] Γ (IsV (.tuple #[plv nilS nilS, .int .i64 6])) := by
  obtain ⟨f, o, g, a, b, c, d⟩ := V
  simp only at ho h2 hb hd
  subst hb hd
  rcases eight ho with rfl | rfl | rfl | rfl | rfl | rfl | rfl | rfl
  · exact absurd rfl h2
  · exact p_ofarG1 f g a c t x y h0 hmn em en hL
  · exact absurd rfl h2
  · exact p_ofarG3 f g a c t x y h0 hmn em en hL
  · exact absurd rfl h2
  · exact p_ofarG5 f g a c t x y h0 hmn em en hL
  · exact absurd rfl h2
  · exact p_ofarG7 f g a c t x y h0 hmn em en hL
theorem entTE {x : Sw} {S S' : Sn} {k : Nat} [h : Has (SF x) (L, S) Γ] (e : S = S') (hq : bS k S') : ∀ (I : Blk) (w : World), DataOK tb I w → Holds Γ I w → Holds [SF x (k / 32 + 1, S')] I w := fun I w _ hh => by
  subst e
  exact holds1 (SF.tight (h.p hh) hq)
theorem tmod8 {o : Int} (h : 0 ≤ o ∧ o ≤ 7) : (o % 2 = 0 → o.tmod 2 = 0) ∧ (o % 2 ≠ 0 → o.tmod 2 = 1) := by
  rcases eight h with rfl | rfl | rfl | rfl | rfl | rfl | rfl | rfl <;> decide
theorem cmpZ_self (a : Int) : cmpZ a a = 0 := by unfold cmpZ; grind
theorem wayOn_mag {f : Bool} {o : Int} {m x y : ByteArray} (h : wayOk o m x y = true) : bq 100 (wayOn f o m x y).mag := by
  have hb := (wayOk_bits (f := f) h).1
  have hs := (wayOk_spec h).2.2
  show bq 100 (if (qval m).num.sign = 0 then 1 else qval m)
  rw [if_neg (by omega)]
  exact hb
theorem snOf_b67 {M N : Int} {ss : List ByteArray} (h : numOk M N ss = true) (hM : M < 9223372036854775808) (hN : N < 9223372036854775808) : bS 67 (snOf M N ss) := by
  obtain ⟨h0, h1, hq⟩ := numOk_spec h
  have k : ∀ {z : Int}, 0 ≤ z → z < 9223372036854775808 → z.natAbs < 2 ^ 67 := fun {z} h g => Nat.lt_of_lt_of_le (show z.natAbs < 9223372036854775808 by omega) (by decide)
  exact ⟨k h0 hM, k h1 hN, hq 0, hq 1, hq 2, hq 3⟩
theorem entTO5 {x : Q5} {V : On} {k : Nat} [h : Has (OF x) (L, V) Γ] (hq : bO k V) : ∀ (I : Blk) (w : World), DataOK tb I w → Holds Γ I w → Holds [OF x (k / 32 + 1, V)] I w := fun I w _ hh =>
  have g := h.p hh
  holds1 ⟨QF.tight g.1 hq.1, QF.tight g.2.1 hq.2.1, QF.tight g.2.2.1 hq.2.2.1, QF.tight g.2.2.2.1 hq.2.2.2.1, QF.tight g.2.2.2.2 hq.2.2.2.2⟩
end
end Go.Proofs.YtabpaiboodllbaaGreat
