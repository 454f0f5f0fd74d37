
/- Texts of quotients are read: by frac and by the reference. -/
import Derived.Test.YtabpaiboodllbaaGreatFs
import Derived.Lib.Bytealg
set_option linter.unusedSimpArgs false
set_option linter.unusedVariables false
namespace Go.Proofs.YtabpaiboodllbaaGreat
open Go.RowKit Go.IntWalk

theorem ib_cons (b : UInt8) (l : List UInt8) (c : UInt8) : Lib.indexByte (b :: l) c = if b == c then 0 else if Lib.indexByte l c == -1 then -1 else Lib.indexByte l c + 1 := by rw [Lib.indexByte]
theorem indexByte_list : ∀ l : List UInt8, Lib.indexByte l 47 = if (l.map fun b => b.toNat).findIdx (· == 47) < l.length then (((l.map fun b => b.toNat).findIdx (· == 47) : Nat) : Int) else -1
  | [] => rfl
  | b :: l => by
    have ih := indexByte_list l
    rw [List.map_cons, List.findIdx_cons, List.length_cons, ib_cons]
    by_cases hb : b = 47
    · subst hb
      simp
    · have h1 : (b == 47) = false := beq_eq_false_iff_ne.2 hb
      have h2 : (b.toNat == 47) = false := beq_eq_false_iff_ne.2 (fun h => hb (UInt8.toNat_inj.1 h))
      rw [h1, h2, ih]
      simp only [Bool.false_eq_true, if_false, cond_false, Nat.add_lt_add_iff_right]
      by_cases h3 : (l.map fun b => b.toNat).findIdx (· == 47) < l.length
      · simp only [h3, if_true]
        rw [beq_eq_false_iff_ne.2 (by omega)]
        simp
      · simp only [h3, if_false]
        rfl
theorem indexByte_sidx (s : ByteArray) : Lib.indexByte s.data.toList 47 = if sidx s < s.size then (sidx s : Int) else -1 := by
  rw [indexByte_list]
  rfl

/-- The first stroke from a place on. -/
def sat (s : ByteArray) (j : Nat) : Int := if Lib.indexByte (s.data.toList.drop j) 47 = -1 then -1 else Lib.indexByte (s.data.toList.drop j) 47 + j
theorem sat_end (s : ByteArray) : sat s s.size = -1 := by
  unfold sat
  rw [List.drop_of_length_le (by show s.data.toList.length ≤ s.data.size; simp)]
  rfl
theorem sat_step {s : ByteArray} {j : Nat} (h : j < s.size) : sat s j = if (((s[j]'h).toNat : Nat) : Int) = 47 then (j : Int) else sat s (j + 1) := by
  have hl : j < s.data.toList.length := by simpa using h
  have e : s.data.toList.drop j = s[j] :: s.data.toList.drop (j + 1) := by
    rw [List.drop_eq_getElem_cons hl]
    rfl
  unfold sat
  rw [e]
  have hge := Lib.indexByte_ge (s.data.toList.drop (j + 1)) 47
  generalize s.data.toList.drop (j + 1) = l at *
  show (if Lib.indexByte (s[j] :: l) 47 = -1 then (-1 : Int) else Lib.indexByte (s[j] :: l) 47 + j) = _
  rw [ib_cons]
  by_cases hb : s[j] = 47
  · have h2 : (((s[j]'h).toNat : Nat) : Int) = 47 := by rw [hb]; rfl
    rw [if_pos h2, hb]
    simp
  · have h1 : (s[j] == 47) = false := beq_eq_false_iff_ne.2 hb
    have h2 : ¬ (((s[j]'h).toNat : Nat) : Int) = 47 := fun h => hb (UInt8.toNat_inj.1 (by show _ = 47; omega))
    rw [if_neg h2, h1]
    simp only [Bool.false_eq_true, if_false]
    by_cases h3 : Lib.indexByte l 47 = -1
    · rw [h3]; simp
    · rw [beq_eq_false_iff_ne.2 h3]
      simp only [Bool.false_eq_true, if_false, h3]
      rw [if_neg (by omega)]
      omega
theorem sat_zero (s : ByteArray) : sat s 0 = if sidx s < s.size then (sidx s : Int) else -1 := by
  unfold sat
  rw [List.drop_zero, indexByte_sidx]
  split
  · rw [if_neg (by omega)]; omega
  · rfl

theorem over_size (s : ByteArray) : (over s).size ≤ s.size := by unfold over; rw [ByteArray.size_extract]; omega
theorem under_size (s : ByteArray) : (under s).size ≤ s.size := by unfold under; rw [ByteArray.size_extract]; omega

section
variable {fin : VS → List Fact → Prop} {Γ : List Fact} {L M : Nat}

set_option maxRecDepth 100000 in
theorem indexByte_spec (s : ByteArray) (w : World) : Calls Tryz.prog 171 #[.string s, .int .u8 47] w fun e w' => e = .returned (.int .i64 (Lib.indexByte s.data.toList 47)) ∧ w' = w := by
  go_enter Tryz.func171, Tryz.ntmps171
  go_wp2
  rw [run_callFunc_extern Tryz.func176 (by kernel_rfl) (by kernel_rfl) (by kernel_rfl) (e := Extern.BytealgIndexByte.indexByte) (by kernel_rfl), Lib.run_indexByteString]
  simp only [Result.andThen]
  rw [Oper.upon_value]
  go_wp2
  go_ret
  exact ⟨rfl, rfl⟩
theorem p_indexByte (s : ByteArray) : PCalls tb Tryz.prog 171 [.string s, .int .u8 47] Γ (IsV (.int .i64 (if sidx s < s.size then (sidx s : Int) else -1))) :=
  ⟨⟨_, Tryz.func171, by kernel_rfl, by kernel_rfl⟩, fun I w hd hh => by
    refine (indexByte_spec s w).mono ?_
    rintro e w' ⟨rfl, rfl⟩
    rw [indexByte_sidx]
    exact ⟨_, _, rfl, ⟨rfl, rfl⟩, Below.refl _ _, Holds.nil _ _⟩⟩
theorem p_index (s : ByteArray) : PCalls tb Tryz.prog 168 [.string s, .string ⟨#[47]⟩] Γ (IsV (.int .i64 (if sidx s < s.size then (sidx s : Int) else -1))) := by
  refine PCalls.of_W tbOk Tryz.func168 rfl (by kernel_rfl) ?_
  refine W.d [19] 16 ((⟨#[47]⟩ : ByteArray).toList == s.toList) (by kernel_rfl) (fun hb => ?_) (fun hb => ?_)
  · have hs : s = ⟨#[47]⟩ := by
      have := eq_of_beq hb
      rw [ByteArray.toList_eq, ByteArray.toList_eq] at this
      exact (ByteArray.ext (Array.ext' this)).symm
    subst hs
    exact W.r [16] (.int .i64 0) (by kernel_rfl) ⟨rfl, rfl⟩ ent0
  · refine W.idx [24, 16] ⟨#[47]⟩ .i64 0 0 rfl tbOk (by kernel_rfl) (by decide) ?_
    refine W.cl [] (by kernel_rfl) (p_indexByte s) ?_
    rintro _ _ ⟨rfl, rfl⟩
    exact W.r [] (.int .i64 (if sidx s < s.size then (sidx s : Int) else -1)) (by kernel_rfl) ⟨rfl, rfl⟩ ent0
theorem p_cut47a (s : ByteArray) (hs : s.size ≤ 9223372036854775807) : PCalls tb Tryz.prog 155 [.string s, .string ⟨#[47]⟩] Γ (IsV (.tuple #[.string (over s), .string (if sidx s < s.size then under s else ⟨#[]⟩), .bool (decide (sidx s < s.size))])) := by
  refine PCalls.of_W tbOk Tryz.func155 rfl (by kernel_rfl) ?_
  refine W.cl [] (by kernel_rfl) (p_index s) ?_
  rintro _ _ ⟨rfl, rfl⟩
  by_cases h : sidx s < s.size
  · rw [if_pos h, if_pos h, decide_eq_true h]
    refine W.dt [] 12 (decide ((sidx s : Int) ≥ 0)) (by kernel_rfl) (by rw [decide_eq_true_iff]; omega) ?_
    refine W.sub' [12] s none (some (.int .i64 (sidx s : Int))) 0 (sidx s) tbOk (by kernel_rfl) (.inr ⟨rfl, rfl⟩) (.inl rfl) (by omega) (by omega) ?_
    refine W.sub' [] s (some (.int .i64 (IntKind.i64.wrap ((sidx s : Int) + ((⟨#[47]⟩ : ByteArray).size : Nat))))) none (sidx s + 1) s.size tbOk (by kernel_rfl) (.inl ?_) (.inr ⟨rfl, rfl⟩) (by omega) (by omega) ?_
    · show some (Value.int .i64 (IntKind.i64.wrap ((sidx s : Int) + (1 : Nat)))) = _
      rw [i64_in _ (by omega)]
      rfl
    exact W.r [] (.tuple #[.string (s.extract 0 (sidx s)), .string (s.extract (sidx s + 1) s.size), .bool true]) (by kernel_rfl) ⟨rfl, rfl⟩ ent0
  · rw [if_neg h, if_neg h, decide_eq_false h, over_all h]
    refine W.df [] 12 (decide ((-1 : Int) ≥ 0)) (by kernel_rfl) rfl ?_
    exact W.r [12] (.tuple #[.string s, .string ⟨#[]⟩, .bool false]) (by kernel_rfl) ⟨rfl, rfl⟩ ent0
theorem p_cut47 (s : ByteArray) (hs : s.size ≤ 9223372036854775807) : PCalls tb Tryz.prog 114 [.string s, .string ⟨#[47]⟩] Γ (IsV (.tuple #[.string (over s), .string (if sidx s < s.size then under s else ⟨#[]⟩), .bool (decide (sidx s < s.size))])) := by
  refine PCalls.of_W tbOk Tryz.func114 rfl (by kernel_rfl) ?_
  refine W.cl [] (by kernel_rfl) (p_cut47a s hs) ?_
  rintro _ _ ⟨rfl, rfl⟩
  exact W.r [] (.tuple #[.string (over s), .string (if sidx s < s.size then under s else ⟨#[]⟩), .bool (decide (sidx s < s.size))]) (by kernel_rfl) ⟨rfl, rfl⟩ ent0

def QPar (s : ByteArray) (v : Value) (Δ : List Fact) : Prop := ∃ (n : Sl) (nb : Bool) (d : Sl) (db : Bool), v = .tuple #[qv n nb d db, .int .i64 (qerr s)] ∧ Δ = [QF n nb d db (max 2 (min s.size 4096), qval s)]
theorem p_qparse (s : ByteArray) (hs : s.size ≤ 9223372036854775807) : PCalls tb Tryz.prog 62 [.string s] Γ (QPar s) := by
  have hos := over_size s
  have hus := under_size s
  refine PCalls.of_W tbOk Tryz.func62 rfl (by kernel_rfl) ?_
  refine W.cl [] (by kernel_rfl) (p_cut47 s hs) ?_
  rintro _ _ ⟨rfl, rfl⟩
  refine W.cl [] (by kernel_rfl) (p_zparse (over s) (by omega)) ?_
  rintro _ _ ⟨u, d, rfl, rfl⟩
  by_cases he : zerr (over s) = 0
  · rw [he]
    refine W.df [] 22 ((0 : Int) != 0) (by kernel_rfl) rfl ?_
    by_cases h : sidx s < s.size
    · rw [decide_eq_true h, if_pos h]
      refine W.df [22] 26 (!true) (by kernel_rfl) rfl ?_
      refine W.cl [26] (by kernel_rfl) (p_parse (under s) (by omega)) ?_
      rintro _ _ ⟨v, rfl, rfl⟩
      by_cases hp : perr (under s) = 0
      · rw [hp]
        refine W.df [] 35 ((0 : Int) != 0) (by kernel_rfl) rfl ?_
        refine W.cl [35] (by kernel_rfl) (p_zbig v) ?_
        rintro _ _ ⟨u5, d5, rfl, rfl⟩
        by_cases hz : pval (under s) = 0
        · have e1 : qerr s = 5 := by unfold qerr; rw [if_neg (by rw [he]; decide), if_pos h, if_neg (by rw [hp]; decide), if_pos hz]
          have e2 : qval s = 0 := by unfold qval; rw [e1, if_pos (by decide)]
          rw [hz]
          refine W.cl [] (by kernel_rfl) (p_qmake0 u d u5 d5) ?_
          rintro _ _ ⟨rfl, rfl⟩
          exact W.r [] (.tuple #[qv ⟨none, 0, 0⟩ false ⟨none, 0, 0⟩ false, .int .i64 5]) (by kernel_rfl) ⟨_, _, _, _, by rw [e1], rfl⟩ (by rw [e2]; exact entQ0)
        · have e1 : qerr s = 0 := by unfold qerr; rw [if_neg (by rw [he]; decide), if_pos h, if_neg (by rw [hp]; decide), if_neg hz]
          have e2 : qval s = Rat.divInt (zval (over s)) (pval (under s)) := by unfold qval; rw [e1, if_neg (by decide), if_pos h]
          refine W.cl [] (by kernel_rfl) (p_qmake u d u5 d5 (by omega)) ?_
          rintro _ _ ⟨n6, a6, m6, b6, rfl, rfl⟩
          exact W.r [] (.tuple #[qv n6 a6 m6 b6, .int .i64 0]) (by kernel_rfl) ⟨n6, a6, m6, b6, by rw [e1], rfl⟩ (entQ (by omega) e2.symm)
      · have e1 : qerr s = perr (under s) := by unfold qerr; rw [if_neg (by rw [he]; decide), if_pos h, if_pos hp]
        have e2 : qval s = 0 := by unfold qval; rw [e1, if_pos hp]
        refine W.dt [] 35 (perr (under s) != 0) (by kernel_rfl) (by simpa using hp) ?_
        exact W.r [35] (.tuple #[qv ⟨none, 0, 0⟩ false ⟨none, 0, 0⟩ false, .int .i64 (perr (under s))]) (by kernel_rfl) ⟨_, _, _, _, by rw [e1], rfl⟩ (by rw [e2]; exact entQ0)
    · have e1 : qerr s = 0 := by unfold qerr; rw [if_neg (by rw [he]; decide), if_neg h]
      have e2 : qval s = (zval (over s) : Rat) := by unfold qval; rw [e1, if_neg (by decide), if_neg h]
      rw [decide_eq_false h]
      refine W.dt [22] 26 (!false) (by kernel_rfl) rfl ?_
      refine W.cl [26] (by kernel_rfl) (p_qwhole u d) ?_
      rintro _ _ ⟨n3, a3, m3, b3, rfl, rfl⟩
      exact W.r [] (.tuple #[qv n3 a3 m3 b3, .int .i64 0]) (by kernel_rfl) ⟨n3, a3, m3, b3, by rw [e1], rfl⟩ (entQ (by omega) e2.symm)
  · have e1 : qerr s = zerr (over s) := by unfold qerr; rw [if_pos he]
    have e2 : qval s = 0 := by unfold qval; rw [e1, if_pos he]
    refine W.dt [] 22 (zerr (over s) != 0) (by kernel_rfl) (by simpa using he) ?_
    exact W.r [22] (.tuple #[qv ⟨none, 0, 0⟩ false ⟨none, 0, 0⟩ false, .int .i64 (zerr (over s))]) (by kernel_rfl) ⟨_, _, _, _, by rw [e1], rfl⟩ (by rw [e2]; exact entQ0)

def PPar (s : ByteArray) (v : Value) (Δ : List Fact) : Prop := ∃ (S : Int) (n : Sl) (R : Int) (t : Sl), v = .tuple #[pv S n R t, .int .i64 (qerr s)] ∧ Δ = [PF S n R t (max 6 (min s.size 4096), qval s)]
set_option maxHeartbeats 1000000 in
theorem s_parse (s : ByteArray) (hs : s.size ≤ 9223372036854775807) : PCalls tb Tryz.prog 63 [.string s] Γ (PPar s) := by
  have hos := over_size s
  have hus := under_size s
  refine PCalls.of_W tbOk Tryz.func63 rfl (by kernel_rfl) ?_
  refine W.lp [] [4, 5] (fun a : Int × Int × Nat => [(4, .int .i64 a.1), (5, .int .i64 a.2.1)]) (fun _ => []) (fun _ => []) (fun a => a.1 = sat s a.2.2 ∧ a.2.1 = (a.2.2 : Int) - 1 ∧ a.2.2 ≤ s.size) (fun a => a.2.2) (-1, IntKind.i64.wrap ((s.size : Int) - 1), s.size) (by kernel_rfl) (by kernel_rfl) ⟨(sat_end s).symm, i64_in _ (by omega), Nat.le_refl _⟩ ent0 ?_
  rintro ⟨a1, a2, j⟩ R ⟨h1, h2, h3⟩ close
  simp only at h1 h2 h3
  subst h1
  subst h2
  by_cases hj : 0 < j
  · obtain ⟨k, rfl⟩ : ∃ k, j = k + 1 := ⟨j - 1, by omega⟩
    refine W.dt [] 14 (decide (((k + 1 : Nat) : Int) - 1 ≥ 0)) (by kernel_rfl) (by rw [decide_eq_true_iff]; omega) ?_
    refine W.idx [14] s .i64 k (((k + 1 : Nat) : Int) - 1) (by omega) tbOk (by kernel_rfl) (by omega) ?_
    have hst := sat_step (s := s) (j := k) (by omega)
    refine W.d [] 20 ((((s[k]'(by omega)).toNat : Nat) : Int) == 47) (by kernel_rfl) (fun hb => ?_) (fun hb => ?_)
    · have hb := eq_of_beq hb
      refine close [20] _ _ (((k + 1 : Nat) : Int) - 1, IntKind.i64.wrap (((k + 1 : Nat) : Int) - 1 - 1), k) (by kernel_rfl) (by kernel_rfl) ⟨by rw [hst, if_pos hb]; simp only; omega, by simp only; rw [i64_in _ (by omega)]; omega, by simp only; omega⟩ (by simp only; omega) ent0
    · have hb := ne_of_beq_false hb
      refine close [20] _ _ (sat s (k + 1), IntKind.i64.wrap (((k + 1 : Nat) : Int) - 1 - 1), k) (by kernel_rfl) (by kernel_rfl) ⟨by rw [hst, if_neg hb], by simp only; rw [i64_in _ (by omega)]; omega, by simp only; omega⟩ (by simp only; omega) ent0
  · obtain rfl : j = 0 := by omega
    refine W.df [] 14 (decide (((0 : Nat) : Int) - 1 ≥ 0)) (by kernel_rfl) rfl ?_
    rw [sat_zero]
    by_cases h : sidx s < s.size
    · rw [if_pos h]
      refine W.dt [14] 24 (decide ((sidx s : Int) ≥ 0)) (by kernel_rfl) (by rw [decide_eq_true_iff]; omega) ?_
      refine W.sub' [24] s none (some (.int .i64 (sidx s : Int))) 0 (sidx s) tbOk (by kernel_rfl) (.inr ⟨rfl, rfl⟩) (.inl rfl) (by omega) (by omega) ?_
      refine W.cl [] (by kernel_rfl) (p_yparse (over s) (by omega)) ?_
      rintro _ _ ⟨S4, u4, rfl, rfl⟩
      by_cases he : zerr (over s) = 0
      · rw [he]
        refine W.df [] 34 ((0 : Int) != 0) (by kernel_rfl) rfl ?_
        refine W.df [34] 38 (decide ((sidx s : Int) < 0)) (by kernel_rfl) (by rw [decide_eq_false_iff_not]; omega) ?_
        refine W.sub' [38] s (some (.int .i64 (IntKind.i64.wrap ((sidx s : Int) + 1)))) none (sidx s + 1) s.size tbOk (by kernel_rfl) (.inl ?_) (.inr ⟨rfl, rfl⟩) (by omega) (by omega) ?_
        · rw [i64_in _ (by omega)]
          rfl
        refine W.cl [] (by kernel_rfl) (r_parse (under s) (by omega)) ?_
        rintro _ _ ⟨v, rfl, rfl⟩
        by_cases hp : perr (under s) = 0
        · rw [hp]
          refine W.df [] 51 ((0 : Int) != 0) (by kernel_rfl) rfl ?_
          refine W.rz v (by kernel_rfl) (fun hv => ?_)
          by_cases hz : pval (under s) = 0
          · have e1 : qerr s = 5 := by unfold qerr; rw [if_neg (by rw [he]; decide), if_pos h, if_neg (by rw [hp]; decide), if_pos hz]
            have e2 : qval s = 0 := by unfold qval; rw [e1, if_pos (by decide)]
            refine W.dt [51] 57 (((v.n : Nat) : Int) == 0) (by kernel_rfl) (by rw [hv.1 hz]; rfl) ?_
            refine W.cl [57] (by kernel_rfl) (s_of 0 (by omega) (by omega)) ?_
            rintro _ _ ⟨S11, s11, R11, t11, rfl, rfl⟩
            exact W.r [] (.tuple #[pv S11 s11 R11 t11, .int .i64 5]) (by kernel_rfl) ⟨S11, s11, R11, t11, by rw [e1], rfl⟩ (entP (by omega) (by rw [e2]; rfl))
          · have e1 : qerr s = 0 := by unfold qerr; rw [if_neg (by rw [he]; decide), if_pos h, if_neg (by rw [hp]; decide), if_neg hz]
            have e2 : qval s = Rat.divInt (zval (over s)) (pval (under s)) := by unfold qval; rw [e1, if_neg (by decide), if_pos h]
            refine W.df [51] 57 (((v.n : Nat) : Int) == 0) (by kernel_rfl) (by rw [beq_eq_false_iff_ne]; intro h0; exact hz (hv.2 (by omega))) ?_
            refine W.cl [57] (by kernel_rfl) (p_ymade 1 (pval (under s) : Int) v ⟨by omega, fun _ => (Int.sign_eq_one_of_pos (by omega)).symm⟩) ?_
            rintro _ _ ⟨S12, u12, rfl, rfl⟩
            refine W.cl [] (by kernel_rfl) (s_make S4 u4 S12 u12 (by omega)) ?_
            rintro _ _ ⟨S13, s13, R13, t13, rfl, rfl⟩
            exact W.r [] (.tuple #[pv S13 s13 R13 t13, .int .i64 0]) (by kernel_rfl) ⟨S13, s13, R13, t13, by rw [e1], rfl⟩ (entP (by omega) e2.symm)
        · have e1 : qerr s = perr (under s) := by unfold qerr; rw [if_neg (by rw [he]; decide), if_pos h, if_pos hp]
          have e2 : qval s = 0 := by unfold qval; rw [e1, if_pos hp]
          refine W.dt [] 51 (perr (under s) != 0) (by kernel_rfl) (by simpa using hp) ?_
          refine W.cl [51] (by kernel_rfl) (s_of 0 (by omega) (by omega)) ?_
          rintro _ _ ⟨S10, s10, R10, t10, rfl, rfl⟩
          exact W.r [] (.tuple #[pv S10 s10 R10 t10, .int .i64 (perr (under s))]) (by kernel_rfl) ⟨S10, s10, R10, t10, by rw [e1], rfl⟩ (entP (by omega) (by rw [e2]; rfl))
      · have e1 : qerr s = zerr (over s) := by unfold qerr; rw [if_pos he]
        have e2 : qval s = 0 := by unfold qval; rw [e1, if_pos he]
        refine W.dt [] 34 (zerr (over s) != 0) (by kernel_rfl) (by simpa using he) ?_
        refine W.cl [34] (by kernel_rfl) (s_of 0 (by omega) (by omega)) ?_
        rintro _ _ ⟨S5, s5, R5, t5, rfl, rfl⟩
        exact W.r [] (.tuple #[pv S5 s5 R5 t5, .int .i64 (zerr (over s))]) (by kernel_rfl) ⟨S5, s5, R5, t5, by rw [e1], rfl⟩ (entP (by omega) (by rw [e2]; rfl))
    · rw [if_neg h]
      refine W.df [14] 24 (decide ((-1 : Int) ≥ 0)) (by kernel_rfl) rfl ?_
      refine W.cl [24] (by kernel_rfl) (p_yparse s hs) ?_
      rintro _ _ ⟨S14, u14, rfl, rfl⟩
      have ho := over_all h
      by_cases he : zerr s = 0
      · have e1 : qerr s = 0 := by unfold qerr; rw [ho, if_neg (by rw [he]; decide), if_neg h]
        have e2 : qval s = (zval s : Rat) := by unfold qval; rw [e1, ho, if_neg (by decide), if_neg h]
        rw [he]
        refine W.df [] 34 ((0 : Int) != 0) (by kernel_rfl) rfl ?_
        refine W.dt [34] 38 (decide ((-1 : Int) < 0)) (by kernel_rfl) rfl ?_
        refine W.cl [38] (by kernel_rfl) (p_yof 1 (by omega) (by omega)) ?_
        rintro _ _ ⟨S16, t16, rfl, rfl⟩
        refine W.cl [] (by kernel_rfl) (s_make S14 u14 S16 t16 (by omega)) ?_
        rintro _ _ ⟨S17, s17, R17, t17, rfl, rfl⟩
        exact W.r [] (.tuple #[pv S17 s17 R17 t17, .int .i64 0]) (by kernel_rfl) ⟨S17, s17, R17, t17, by rw [e1], rfl⟩ (entP (by omega) (by rw [e2, q_divInt1]))
      · have e1 : qerr s = zerr s := by unfold qerr; rw [ho, if_pos he]
        have e2 : qval s = 0 := by unfold qval; rw [e1, if_pos he]
        refine W.dt [] 34 (zerr s != 0) (by kernel_rfl) (by simpa using he) ?_
        refine W.cl [34] (by kernel_rfl) (s_of 0 (by omega) (by omega)) ?_
        rintro _ _ ⟨S15, s15, R15, t15, rfl, rfl⟩
        exact W.r [] (.tuple #[pv S15 s15 R15 t15, .int .i64 (zerr s)]) (by kernel_rfl) ⟨S15, s15, R15, t15, by rw [e1], rfl⟩ (entP (by omega) (by rw [e2]; rfl))
end

end Go.Proofs.YtabpaiboodllbaaGreat
