
/- Numbers of eight bytes: the law's own functions, and real.Same. -/
import Derived.Test.YthjhcddkdplegaaRn
set_option linter.unusedSimpArgs false
set_option linter.unusedVariables false
namespace Go.Proofs.Ythjhcddkdplegaa
open Go.RowKit Go.IntWalk

theorem Bytes.take {zs : List Int} (h : Bytes zs) (k : Nat) : Bytes (zs.take k) := fun z hz => h z (List.mem_of_mem_take hz)

theorem wf_bytes {zs : List Int} (h : ∀ z ∈ zs, (Lit.int .u8 z).wf = true) : Bytes zs := fun z hz => by
  have := h z hz
  simp [Lit.wf, IntKind.min, IntKind.max, IntKind.signed, IntKind.bits] at this
  omega
theorem eight {zs : List Int} (h : zs.length = 8) : ∃ z0 z1 z2 z3 z4 z5 z6 z7, zs = [z0, z1, z2, z3, z4, z5, z6, z7] := by
  match zs, h with
  | [_, _, _, _, _, _, _, _], _ => exact ⟨_, _, _, _, _, _, _, _, rfl⟩
theorem and128 : ∀ x : _root_.Fin 256, x.val &&& 128 = if 127 < x.val then 128 else 0 := by decide +kernel
theorem high_same {x y : Int} (h1 : 0 ≤ x) (h2 : x < 256) (h3 : 0 ≤ y) (h4 : y < 256) (h : 127 < x ↔ 127 < y) : Go.bits .and .u8 (Go.bits .xor .u8 x y) 128 = 0 := by
  obtain ⟨a, rfl⟩ := Int.eq_ofNat_of_zero_le h1
  obtain ⟨b, rfl⟩ := Int.eq_ofNat_of_zero_le h3
  have ha : a < 2 ^ 8 := by omega
  have hb : b < 2 ^ 8 := by omega
  have hx : a ^^^ b < 2 ^ 8 := Nat.xor_lt_two_pow ha hb
  have e1 : Go.bits .xor .u8 (a : Int) (b : Int) = ((a ^^^ b : Nat) : Int) := by
    have e0 : (BitVec.ofNat IntKind.u8.bits a ^^^ BitVec.ofNat IntKind.u8.bits b).toNat = a ^^^ b := by
      rw [BitVec.toNat_xor, BitVec.toNat_ofNat, BitVec.toNat_ofNat]
      show a % 2 ^ 8 ^^^ b % 2 ^ 8 = _
      rw [Nat.mod_eq_of_lt ha, Nat.mod_eq_of_lt hb]
    simp only [Go.bits, BitVec.ofInt_natCast]
    rw [e0]
    exact wraps_u8 _ (Int.natCast_nonneg _) (by exact_mod_cast hx)
  rw [e1, show (128 : Int) = ((128 : Nat) : Int) from rfl, (bits_nat .u8 8 (by decide) wraps_u8 _ 128 hx (by decide)).1, Nat.and_xor_distrib_right]
  have k1 := and128 ⟨a, by omega⟩
  have k2 := and128 ⟨b, by omega⟩
  simp only at k1 k2
  rw [k1, k2]
  have h' : 127 < a ↔ 127 < b := by omega
  by_cases hh : 127 < a
  · rw [if_pos hh, if_pos (h'.1 hh)]; rfl
  · rw [if_neg hh, if_neg (fun g => hh (h'.2 g))]; rfl
theorem be_bytes (n : Int) (h0 : 0 ≤ n) (h1 : n < 72057594037927936) (b : Bool) (e : Nat) : be ((ebytes b e n).drop 1) = n := by
  simp only [be, ebytes, List.drop_succ_cons, List.drop_zero, List.foldl_cons, List.foldl_nil]
  omega
theorem be_bound {zs : List Int} (h : zs.length = 8) (hb : Bytes zs) : 0 ≤ be (zs.drop 1) ∧ be (zs.drop 1) < 72057594037927936 := by
  obtain ⟨z0, z1, z2, z3, z4, z5, z6, z7, rfl⟩ := eight h
  have b1 := hb z1 (by simp)
  have b2 := hb z2 (by simp)
  have b3 := hb z3 (by simp)
  have b4 := hb z4 (by simp)
  have b5 := hb z5 (by simp)
  have b6 := hb z6 (by simp)
  have b7 := hb z7 (by simp)
  simp only [be, List.drop_succ_cons, List.drop_zero, List.foldl_cons, List.foldl_nil]
  omega
theorem rval_bytes (n : Int) (h0 : 0 ≤ n) (h1 : n < 72057594037927936) (b : Bool) (e : Nat) (he : e < 128) : rval (ebytes b e n) = (if b then -1 else 1) * (n : Rat) * pw (4 * ((e : Int) - 78)) := by
  unfold rval
  rw [if_pos (show (ebytes b e n).length = 8 from rfl), be_bytes n h0 h1]
  show (if 127 < (if b then 128 else 0) + (e : Int) then (-1 : Rat) else 1) * (n : Rat) * pw (4 * (((if b then 128 else 0) + (e : Int)) % 128 - 78)) = _
  cases b
  · simp only [Bool.false_eq_true, if_false]
    rw [if_neg (by omega), show (0 + (e : Int)) % 128 = e by omega]
  · simp only [if_true]
    rw [if_pos (by omega), show (128 + (e : Int)) % 128 = e by omega]
theorem qabs_mul (b : Bool) (x : Rat) (h : 0 ≤ x) : qabs ((if b then -1 else 1) * x) = x := by
  unfold qabs
  cases b <;> simp only [Bool.false_eq_true, if_false, if_true] <;> split <;> grind
theorem enc_back (ys : List Int) (hl : ys.length = 8) (hb : Bytes ys) {r : Option (List Int)} (h : Enc (rval ys) r) :
    ∃ bs, r = some bs ∧ bs.length = 8 ∧ Bytes bs ∧ rval bs = rval ys ∧ bs.getD 0 0 % 128 ≤ ys.getD 0 0 % 128 ∧ (rval ys ≠ 0 → (127 < ys.getD 0 0 ↔ 127 < bs.getD 0 0)) := by
  have hm := be_bound hl hb
  have hy0 : 0 ≤ ys.getD 0 0 ∧ ys.getD 0 0 < 256 := by
    obtain ⟨z0, z1, z2, z3, z4, z5, z6, z7, rfl⟩ := eight hl
    exact hb z0 (by simp)
  have hv : rval ys = (if decide (127 < ys.getD 0 0) then -1 else 1) * ((be (ys.drop 1) : Rat) * pw (4 * (ys.getD 0 0 % 128 - 78))) := by
    unfold rval
    rw [if_pos hl, Rat.mul_assoc]
    simp only [decide_eq_true_eq]
  generalize hX : be (ys.drop 1) = m at *
  generalize ys.getD 0 0 = y at *
  obtain ⟨k, hk⟩ : ∃ k : Nat, y % 128 = k := ⟨(y % 128).toNat, by omega⟩
  have hp := pw_pos (4 * (y % 128 - 78))
  have hm0 : (0 : Rat) ≤ (m : Rat) := by
    rw [show (0 : Rat) = ((0 : Int) : Rat) from rfl, Rat.intCast_le_intCast]
    exact hm.1
  have habs : qabs (rval ys) = (m : Rat) * pw (4 * (y % 128 - 78)) := by
    rw [hv]
    exact qabs_mul _ _ (Rat.mul_nonneg hm0 (Rat.le_of_lt hp))
  have hMk : M (qabs (rval ys)) k = (m : Rat) := by
    unfold M
    rw [habs, Rat.mul_assoc, ← pw_add, hk, show 4 * ((k : Int) - 78) + 4 * (78 - (k : Int)) = 0 by omega]
    show (m : Rat) * (2 : Rat) ^ (0 : Int) = _
    simp
  have hk8 : k < 128 := by omega
  rcases h with ⟨h0, rfl⟩ | ⟨h0, e, hE, h⟩
  · refine ⟨_, rfl, rfl, by unfold Bytes; decide, ?_, ?_, fun hne => absurd h0 hne⟩
    · rw [h0]; decide +kernel
    · show (0 : Int) % 128 ≤ _
      omega
  · have hek : e ≤ k := by
      rcases Nat.lt_or_ge k e with hl2 | hl2
      · have := hE k hl2
        rw [hMk, Rat.intCast_le_intCast] at this
        omega
      · exact hl2
    rcases h with ⟨rfl, _⟩ | ⟨h1, h2, h3⟩
    · omega
    have hMe : M (qabs (rval ys)) e = (((m * ((2 ^ (4 * (k - e)) : Nat) : Int)) : Int) : Rat) := by
      rw [M_back _ hek, hMk, Rat.intCast_mul]
    have hn0 : 0 ≤ m * ((2 ^ (4 * (k - e)) : Nat) : Int) := Int.mul_nonneg hm.1 (Int.le_of_lt (two_posI _))
    generalize m * ((2 ^ (4 * (k - e)) : Nat) : Int) = n at *
    rcases h3 with ⟨h3, _⟩ | ⟨_, rfl⟩
    · exact absurd (by rw [hMe]; rfl) h3
    have hnum : (M (qabs (rval ys)) e).num = n := by rw [hMe]; rfl
    rw [hMe, Rat.intCast_lt_intCast] at h2
    have hsg : rval ys < 0 ↔ 127 < y := by
      have hpos : 0 < qabs (rval ys) := qabs_gt h0
      rw [habs] at hpos
      rw [hv]
      by_cases hy : 127 < y
      · simp only [hy, decide_true, if_true, iff_true]; grind
      · simp only [hy, decide_false, Bool.false_eq_true, if_false, iff_false]; grind
    refine ⟨_, rfl, rfl, ebytes_ok _ h1 _, ?_, ?_, fun _ => ?_⟩
    · rw [hnum, rval_bytes n hn0 (by omega) _ e h1]
      have hback : (n : Rat) * pw (4 * ((e : Int) - 78)) = qabs (rval ys) := by
        rw [← hMe]
        unfold M
        rw [Rat.mul_assoc, ← pw_add, show 4 * (78 - (e : Int)) + 4 * ((e : Int) - 78) = 0 by omega]
        show _ * (2 : Rat) ^ (0 : Int) = _
        simp
      rw [Rat.mul_assoc, hback]
      unfold qabs
      by_cases hlt : rval ys < 0
      · simp only [hlt, decide_true, if_true]; grind
      · simp only [hlt, decide_false, Bool.false_eq_true, if_false]; grind
    · show ((if decide (rval ys < 0) then 128 else 0) + (e : Int)) % 128 ≤ _
      cases decide (rval ys < 0) <;> simp only [Bool.false_eq_true, if_false, if_true] <;> omega
    · show _ ↔ 127 < (if decide (rval ys < 0) then 128 else 0) + (e : Int)
      rw [← hsg]
      by_cases hlt : rval ys < 0
      · simp only [hlt, decide_true, if_true, true_iff]; omega
      · simp only [hlt, decide_false, Bool.false_eq_true, if_false, false_iff]; omega

section
variable {Γ : List Fact} {L : Nat} {fin : VS → List Fact → Prop}
theorem entRAt {b off : Nat} {xs ys : List Value} [h : Has (RA (some ⟨b, off, none⟩)) xs Γ] (hx : ∀ (i : Nat) (v : Value), ys[i]? = some v → xs[i]? = some v) : ∀ (I : Blk) (w : World), DataOK tb I w → Holds Γ I w → Holds [RA (some ⟨b, off + 0 * 1, none⟩) ys] I w := fun I w _ hh => by
  refine Holds.cons (fun hne => ?_) (Holds.nil _ _)
  have hne2 : xs ≠ [] := by
    obtain ⟨v, r, rfl⟩ := List.exists_cons_of_ne_nil hne
    have := hx 0 v rfl
    rintro rfl
    simp at this
  obtain ⟨b', off', ha, hI, hr⟩ := h.p hh hne2
  exact ⟨b', off', by rw [← ha, Nat.zero_mul, Nat.add_zero], hI, fun i v hv => hr i v (hx i v hv)⟩
theorem take_map {zs : List Int} (k : Nat) : ∀ (i : Nat) (v : Value), ((zs.take k).map (Value.int .u8))[i]? = some v → (zs.map (Value.int .u8))[i]? = some v := fun i v hv => by
  rw [List.map_take, List.getElem?_take] at hv
  split at hv
  · exact hv
  · simp at hv

theorem p_copied (ao : Option Addr) (n c : Nat) (zs : List Int) [h : Has (RA ao) (zs.map (Value.int .u8)) Γ] (hn : n = zs.length) (hc : n ≤ 1000000) :
    PCalls tb Try.prog 8 [.slice ao n c] Γ (fun v Δ => ∃ (bo : Option Addr) (cc : Nat), v = .slice bo n cc ∧ n ≤ cc ∧ Δ = [RA bo (zs.map (Value.int .u8))]) := by
  refine PCalls.of_W tbOk Try.func8 rfl (by kernel_rfl) ?_
  by_cases h0 : zs = []
  · subst h0
    simp only [List.length_nil] at hn
    subst hn
    refine W.bs0 [] tbOk (by kernel_rfl) (fun b1 => ?_)
    refine W.ap0 [] [] 1 1 0 b1 0 (.slice ao 0 c) [] tbOk (by kernel_rfl) ⟨ao, c, rfl, rfl, fun h => absurd h (by decide)⟩ (by decide) (by decide) (fun _ => ?_) (fun g cap cur hh => absurd hh (by decide))
    exact W.r [] (.slice (some ⟨b1, 0, none⟩) 0 0) (by kernel_rfl) ⟨_, 0, rfl, Nat.le_refl _, rfl⟩ (fun I w _ _ => Holds.cons (RA.nil _ _ _) (Holds.nil _ _))
  · refine W.ra ao rfl (by simpa using h0) (fun ba of e => ?_)
    subst e
    refine W.bs0 [] tbOk (by kernel_rfl) (fun b1 => ?_)
    refine W.ap0 [] [] 1 1 n b1 0 (.slice (some ⟨ba, of, none⟩) n c) (zs.map (Value.int .u8)) tbOk (by kernel_rfl) (reads_ra (some ⟨ba, of, none⟩) [] n 1 c (by simp [hn]) (fun _ => ⟨ba, of, rfl⟩)) hc (by decide) (fun h1 => absurd (List.eq_nil_of_length_eq_zero (by omega)) h0) (fun g cap cur h1 h2 h3 h4 h5 => ?_)
    refine W.pubr [] [] g cur (by kernel_rfl) (by kernel_rfl) ?_
    refine W.r [] (.slice (some ⟨g, 0, none⟩) n cap) (by kernel_rfl) ⟨_, cap, rfl, h2, rfl⟩ (entRA (b := g) (fun i v hv => ?_))
    rw [← h5, List.getElem?_take] at hv
    split at hv
    · exact hv
    · simp at hv

theorem p_bsame (ao : Option Addr) (n c : Nat) (zs : List Int) [h : Has (RA ao) (zs.map (Value.int .u8)) Γ] (bo : Option Addr) (k d : Nat) [h' : Has (RA bo) (zs.map (Value.int .u8)) Γ] (hn : n = zs.length) (hk : k = zs.length) :
    PCalls tb Try.prog 12 [.slice ao n c, .slice bo k d] Γ (IsV (.bool true)) := by
  refine PCalls.of_W tbOk Try.func12 rfl (by kernel_rfl) ?_
  refine W.str [] ao n c zs tbOk (by kernel_rfl) hn ?_
  refine W.str [] bo k d zs tbOk (by kernel_rfl) hk ?_
  exact W.r [] (.bool ((strOfNums zs).toList == (strOfNums zs).toList)) (by kernel_rfl) ⟨by simp, rfl⟩ ent0

theorem p_rsame (ao : Option Addr) (n c : Nat) (zs : List Int) [h : Has (RA ao) (zs.map (Value.int .u8)) Γ] (bo : Option Addr) (k d : Nat) (ys : List Int) [h' : Has (RA bo) (ys.map (Value.int .u8)) Γ]
    (hn : n = zs.length) (hz : Bytes zs) (hc : n ≤ c) (hk : k = ys.length) (hy : Bytes ys) (hd : k ≤ d) :
    PCalls tb Try.prog 20 [.slice ao n c, .slice bo k d] Γ (IsV (.bool (decide (derr zs = 0 ∧ derr ys = 0 ∧ rval zs = rval ys)))) := by
  refine PCalls.of_W tbOk Try.func20 rfl (by kernel_rfl) ?_
  refine W.cl [] (by kernel_rfl) (p_rdec ao n c zs hn hz hc) ?_
  rintro _ _ ⟨n1, a1, m1, b1, rfl, rfl⟩
  refine W.cl [] (by kernel_rfl) (p_rdec bo k d ys hk hy hd) ?_
  rintro _ _ ⟨n2, a2, m2, b2, rfl, rfl⟩
  refine W.d [] 21 (derr zs == 0) (by kernel_rfl) (fun hb => ?_) (fun hb => ?_)
  · have e1 : derr zs = 0 := by simpa using hb
    refine W.d [21] 25 (derr ys == 0) (by kernel_rfl) (fun hb2 => ?_) (fun hb2 => ?_)
    · have e2 : derr ys = 0 := by simpa using hb2
      refine W.cl [25] (by kernel_rfl) (p_qcmp n1 a1 m1 b1 n2 a2 m2 b2) ?_
      rintro _ _ ⟨rfl, rfl⟩
      refine W.r [25] (.bool (cmpQ (rval zs) (rval ys) == 0)) (by kernel_rfl) ⟨?_, rfl⟩ ent0
      congr 1
      rw [Bool.eq_iff_iff]
      simp [e1, e2, cmpQ_eq]
    · have e2 : derr ys ≠ 0 := by simpa using hb2
      exact W.r [25] (.bool false) (by kernel_rfl) ⟨by simp [e2], rfl⟩ ent0
  · have e1 : derr zs ≠ 0 := by simpa using hb
    exact W.r [25, 21] (.bool false) (by kernel_rfl) ⟨by simp [e1], rfl⟩ ent0

theorem enc90 : Enc (Rat.divInt 90 1) (some [66, 90, 0, 0, 0, 0, 0, 0]) :=
  .inr ⟨by decide +kernel, 66, by unfold EncE; decide +kernel, .inr ⟨by decide, by decide +kernel, .inr ⟨by decide +kernel, by decide +kernel⟩⟩⟩
theorem encm : Enc (Rat.divInt 1 1000) none :=
  .inr ⟨by decide +kernel, 62, by unfold EncE; decide +kernel, .inr ⟨by decide, by decide +kernel, .inl ⟨by decide +kernel, rfl⟩⟩⟩

theorem p_rknown : PCalls tb Try.prog 11 [] Γ (IsV (.bool true)) := by
  refine PCalls.of_W tbOk Try.func11 rfl (by kernel_rfl) ?_
  refine W.bs [] 8 (([65, 16, 0, 0, 0, 0, 0, 0] : List Int).map (Value.int .u8)) tbOk (by kernel_rfl) (fun b1 => ?_)
  refine W.cx [] (by kernel_rfl) (entRA (b := b1) (xs := ([65, 16, 0, 0, 0, 0, 0, 0] : List Int).map (Value.int .u8)) (fun i v hv => hv)) (p_rdec (some ⟨b1, 0, none⟩) 8 8 [65, 16, 0, 0, 0, 0, 0, 0] rfl (by unfold Bytes; decide) (by decide)) ?_
  rintro _ _ ⟨n2, a2, m2, b2, rfl, rfl⟩
  refine W.bs [] 8 (([193, 32, 0, 0, 0, 0, 0, 0] : List Int).map (Value.int .u8)) tbOk (by kernel_rfl) (fun b3 => ?_)
  refine W.cx [] (by kernel_rfl) (entRA (b := b3) (xs := ([193, 32, 0, 0, 0, 0, 0, 0] : List Int).map (Value.int .u8)) (fun i v hv => hv)) (p_rdec (some ⟨b3, 0, none⟩) 8 8 [193, 32, 0, 0, 0, 0, 0, 0] rfl (by unfold Bytes; decide) (by decide)) ?_
  rintro _ _ ⟨n4, a4, m4, b4, rfl, rfl⟩
  refine W.cl [] (by kernel_rfl) (p_qof 90 1 (by omega) (by omega) (by omega) (by omega) (by omega)) ?_
  rintro _ _ ⟨n5, a5, m5, b5, rfl, rfl⟩
  refine W.cl [] (by kernel_rfl) (p_enc n5 a5 m5 b5) ?_
  rintro _ _ ⟨r, hr, ⟨rfl, -, -⟩ | ⟨bs, bo, cc, rfl, hb1, hb2, rfl, hcc, rfl⟩⟩
  · exact absurd (hr.unique enc90) (by simp)
  have e := hr.unique enc90
  simp only [Option.some.injEq] at e
  subst e
  refine W.code 999 ?_
  refine W.ra bo (by kernel_rfl) (by simp) (fun ba of e => ?_)
  subst e
  refine W.cl [] (by kernel_rfl) (p_qof 1 1000 (by omega) (by omega) (by omega) (by omega) (by omega)) ?_
  rintro _ _ ⟨n7, a7, m7, b7, rfl, rfl⟩
  refine W.cl [] (by kernel_rfl) (p_enc n7 a7 m7 b7) ?_
  rintro _ _ ⟨r, hr2, ⟨rfl, rfl, rfl⟩ | ⟨bs, bo2, cc2, rfl, hb3, hb4, rfl, hcc2, rfl⟩⟩
  rotate_left
  · exact absurd (hr2.unique encm) (by simp)
  refine W.dt [] 43 (derr [65, 16, 0, 0, 0, 0, 0, 0] == 0) (by kernel_rfl) (by decide) ?_
  refine W.cl [43] (by kernel_rfl) (p_qtext n2 a2 m2 b2) ?_
  rintro _ _ ⟨rfl, rfl⟩
  refine W.dt [43] 48 ((qtxt (rval [65, 16, 0, 0, 0, 0, 0, 0])).toList == (⟨#[49]⟩ : ByteArray).toList) (by kernel_rfl) (by decide +kernel) ?_
  refine W.dt [48] 52 (derr [193, 32, 0, 0, 0, 0, 0, 0] == 0) (by kernel_rfl) (by decide) ?_
  refine W.cl [52] (by kernel_rfl) (p_qtext n4 a4 m4 b4) ?_
  rintro _ _ ⟨rfl, rfl⟩
  refine W.dt [52] 57 ((qtxt (rval [193, 32, 0, 0, 0, 0, 0, 0])).toList == (⟨#[45, 50]⟩ : ByteArray).toList) (by kernel_rfl) (by decide +kernel) ?_
  refine W.ia [61, 66, 57] 1 ba of 8 cc .i64 0 0 rfl tbOk (by kernel_rfl) (by decide) ?_
  refine W.ld [66] 1 ba (of + 0 * 1) (.int .u8 66) tbOk (by kernel_rfl) (RA.rd ba of 0 rfl) ?_
  refine W.ia [72, 66] 1 ba of 8 cc .i64 1 1 rfl tbOk (by kernel_rfl) (by decide) ?_
  refine W.ld [72] 1 ba (of + 1 * 1) (.int .u8 90) tbOk (by kernel_rfl) (RA.rd ba of 1 rfl) ?_
  exact W.r [78, 72] (.bool true) (by kernel_rfl) ⟨rfl, rfl⟩ ent0
end
end Go.Proofs.Ythjhcddkdplegaa
