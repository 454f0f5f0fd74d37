/- FracBack: whatever the text, the law returns true; no condition. -/
import Derived.Test.YtmpcabpepnmfiaaRows
import Derived.Test.YtmpcabpepnmfiaaFl
import Derived.Test.YtmpcabpepnmfiaaLawZ
import Derived.Test.YtmpcabpepnmfiaaVx
import Derived.Test.YtmpcabpepnmfiaaJn
set_option linter.unusedSimpArgs false
set_option linter.unusedVariables false
namespace Go.Proofs.Ytmpcabpepnmfiaa
open Go.RowKit Go.IntWalk
theorem qf_size {n m : Sl} {a b : Bool} {L : Nat} {q : Rat} {I : Blk} {w : World} (h : (QF n a m b (L, q)).p I w) (hL : L ≤ 300 := by omega) : (txt (dec q.num.natAbs)).size ≤ 4000 ∧ (txt (dec q.den)).size ≤ 4000 := by
  obtain ⟨y, ⟨⟨h1, h2, h3⟩, h4⟩, ⟨⟨g1, g2, g3⟩, g4⟩, hy⟩ := h
  have h1 : NatS w n q.num.natAbs := h1
  have g1 : NatS w m y.natAbs := g1
  have b1 := txt_dec_size (dl_bound h1)
  have b2 := txt_dec_size (dl_bound g1)
  simp only at h3 g3
  refine ⟨by omega, ?_⟩
  rcases hy with hy | ⟨hy, hd⟩
  · rw [hy] at b2
    have : ((q.den : Nat) : Int).natAbs = q.den := rfl
    rw [this] at b2
    omega
  · rw [hd]
    decide +kernel
theorem cmpQ_self (a : Rat) : cmpQ a a = 0 := cmpQ_eq.2 rfl
theorem qfl_int (z : Int) : qfl (z : Rat) = ((z : Rat)).num := by
  show z / ((1 : Nat) : Int) = z
  omega
theorem qnr_int (z : Int) : qnr (z : Rat) = ((z : Rat)).num := by
  show (if (z * 2 + ((1 : Nat) : Int)) % (((1 : Nat) : Int) * 2) = 0 ∧ (z * 2 + ((1 : Nat) : Int)) / (((1 : Nat) : Int) * 2) % 2 ≠ 0 then (z * 2 + ((1 : Nat) : Int)) / (((1 : Nat) : Int) * 2) - 1 else (z * 2 + ((1 : Nat) : Int)) / (((1 : Nat) : Int) * 2)) = z
  rw [if_neg (by omega)]
  omega
theorem near_half (q : Rat) : q - (qnr q : Rat) ≤ Rat.divInt 1 2 ∧ -(q - (qnr q : Rat)) ≤ Rat.divInt 1 2 := by
  have hl := qfl_le q
  have hl2 := qfl_lt q
  have hn := qnr_spec q
  have hh : Rat.divInt 1 2 + Rat.divInt 1 2 = 1 := by decide +kernel
  generalize qfl q = l at *
  generalize qnr q = n at *
  split at hn
  · rename_i hc
    subst hn
    rcases hc with hc | ⟨hc, _⟩ <;> constructor <;> grind
  · rename_i hc
    subst hn
    have hc' : ¬ q - l < (l + 1) - q := fun h => hc (.inl h)
    rw [Rat.intCast_add]
    constructor <;> grind
theorem bs_take (s : ByteArray) (n : Nat) : bs (s.extract 0 n) = (bs s).take n := by
  unfold bs
  rw [Lib.extract_data, List.drop_zero, List.map_take, Nat.sub_zero]
theorem ztxt_bytes (x : Int) : ∀ b ∈ bs (ztxt x), b ≠ 47 := by
  intro b hb
  have hd : ∀ b ∈ bs (txt (dec x.natAbs)), b ≠ 47 := fun b hb => by
    rw [bs_dec] at hb
    have := dec_digs _ b hb
    omega
  unfold ztxt at hb
  split at hb
  · rw [bs_append] at hb
    rcases List.mem_append.1 hb with h | h
    · have : b = 45 := by simpa [bs] using h
      omega
    · exact hd b h
  · exact hd b hb
theorem idx_none {l : List Nat} (h : ∀ b ∈ l, b ≠ 47) : l.findIdx (· == 47) = l.length := by
  rw [List.findIdx_eq_length]
  intro b hb
  simpa using h b hb
theorem qtxt_back {q : Rat} (h1 : (txt (dec q.num.natAbs)).size ≤ 4000) (h2 : (txt (dec q.den)).size ≤ 4000) : qerr (qtxt q) = 0 ∧ qval (qtxt q) = q := by
  obtain ⟨e1, e2⟩ := zerr_ztxt (x := q.num) (by omega)
  by_cases hd : q.den = 1
  · have ht : qtxt q = ztxt q.num := by unfold qtxt; rw [if_pos hd]
    have hs : sidx (ztxt q.num) = (ztxt q.num).size := by
      unfold sidx
      rw [idx_none (ztxt_bytes _), bs_size]
    have ho := over_all (s := ztxt q.num) (by omega)
    have hE : qerr (ztxt q.num) = 0 := by unfold qerr; rw [ho, if_neg (by rw [e1]; decide), if_neg (by omega)]
    rw [ht]
    refine ⟨hE, ?_⟩
    unfold qval
    rw [if_neg (by rw [hE]; decide), if_neg (by omega), ho, e2, ← q_divInt1]
    exact eq_of_cross (by omega) (by rw [hd]; rfl)
  · have ht : qtxt q = ztxt q.num ++ ⟨#[47]⟩ ++ ztxt q.den := by unfold qtxt; rw [if_neg hd]
    have hbs : bs (qtxt q) = bs (ztxt q.num) ++ (47 :: bs (ztxt q.den)) := by
      rw [ht, bs_append, bs_append]
      simp [bs]
    have hs : sidx (qtxt q) = (ztxt q.num).size := by
      unfold sidx
      rw [hbs, List.findIdx_append, idx_none (ztxt_bytes _)]
      simp [bs_size, List.findIdx_cons]
    have hsz : (qtxt q).size = (ztxt q.num).size + 1 + (ztxt q.den).size := by
      rw [ht, ByteArray.size_append, ByteArray.size_append]
      rfl
    have ho : over (qtxt q) = ztxt q.num := by
      apply bs_ext
      unfold over
      rw [bs_take, hbs, hs]
      exact List.take_left' (bs_size _)
    have hzd : ztxt (q.den : Int) = txt (dec q.den) := by
      unfold ztxt
      rw [if_neg (by omega)]
      rfl
    have hu : under (qtxt q) = txt (dec q.den) := by
      rw [← hzd]
      apply bs_ext
      unfold under
      rw [bs_drop, hbs, hs, show (ztxt q.num).size + 1 = (bs (ztxt q.num)).length + 1 by rw [bs_size]]
      simp
    obtain ⟨p1, p2⟩ := perr_txt (x := q.den) (by omega)
    have hlt : sidx (qtxt q) < (qtxt q).size := by omega
    have hdp := q.den_pos
    have hE : qerr (qtxt q) = 0 := by
      unfold qerr
      rw [ho, if_neg (by rw [e1]; decide), if_pos hlt, hu, if_neg (by rw [p1]; decide), if_neg (by rw [p2]; omega)]
    refine ⟨hE, ?_⟩
    unfold qval
    rw [if_neg (by rw [hE]; decide), if_pos hlt, ho, hu, e2, p2]
    exact Rat.num_divInt_den q
/-- How long its parts' texts may be. -/
theorem p_qone' {Γ : List Fact} (s : ByteArray) : PCalls tb Try.prog 42 [.string s] Γ (fun v Δ => ∃ (n : Sl) (a : Bool) (m : Sl) (b : Bool) (S : Int) (t : Sl) (R : Int) (r : Sl), v = .tuple #[qv n a m b, pv S t R r, .bool (qok s)] ∧ ((txt (dec (qfv s).num.natAbs)).size ≤ 4000 ∧ (txt (dec (qfv s).den)).size ≤ 4000) ∧ Δ = [QF n a m b (80, qfv s), PF S t R r (80, qfv s)]) :=
  ((p_qone0 s).info (fun v Δ => ∀ n a m b S t R r, Δ = [QF n a m b (80, qfv s), PF S t R r (80, qfv s)] → (txt (dec (qfv s).num.natAbs)).size ≤ 4000 ∧ (txt (dec (qfv s).den)).size ≤ 4000) (by
    rintro v Δ - I w hh n a m b S t R r rfl
    exact qf_size (hh (QF n a m b (80, qfv s)) (.head _)))).post fun v Δ ⟨⟨n, a, m, b, S, t, R, r, h1, h2⟩, h3⟩ => ⟨n, a, m, b, S, t, R, r, h1, h3 _ _ _ _ _ _ _ _ h2, h2⟩
set_option maxHeartbeats 4000000 in
theorem p_fracBack (x : ByteArray) (hx : x.size ≤ 9223372036854775807) : PCalls tb Try.prog 11 [.string x] [] (IsV (.bool true)) := by
  refine PCalls.of_W tbOk Try.func11 rfl (by kernel_rfl) ?_
  refine W.cl [] (by kernel_rfl) (p_qone' x) ?_
  rintro _ _ ⟨n1, a1, m1, b1, S1, s1, R1, t1, rfl, ⟨hz1, hz2⟩, rfl⟩
  refine W.cl [] (by kernel_rfl) (p_qknown) ?_
  rintro _ _ ⟨rfl, rfl⟩
  generalize qfv x = X at *
  obtain ⟨hE, hV⟩ := qtxt_back hz1 hz2
  have hN := near_half X
  have hqz : (qtxt X).size ≤ 9223372036854775807 := by
    have h1 : (ztxt X.num).size ≤ 4001 := by
      unfold ztxt
      split
      · rw [ByteArray.size_append]; show 1 + _ ≤ _; omega
      · omega
    have h2 : (ztxt (X.den : Int)).size ≤ 4001 := by
      unfold ztxt
      split
      · omega
      · show (txt (dec X.den)).size ≤ _; omega
    unfold qtxt
    split
    · omega
    · rw [ByteArray.size_append, ByteArray.size_append]; show _ + 1 + _ ≤ _; omega
  cases hk1 : qok x with
  | false =>
    refine W.cl [25, 22] (by kernel_rfl) (p_qknown) ?_
    rintro _ _ ⟨rfl, rfl⟩
    exact W.r [] (.bool true) (by kernel_rfl) ⟨rfl, rfl⟩ ent0
  | true =>
    refine W.cl [25, 22] (by kernel_rfl) (p_qtext n1 a1 m1 b1) ?_
    rintro _ _ ⟨rfl, rfl⟩
    refine W.cl [] (by kernel_rfl) (p_qparse (qtxt X) (by omega)) ?_
    rintro _ _ ⟨n4, a4, m4, b4, rfl, rfl⟩
    refine W.cl [] (by kernel_rfl) (p_qfloor n1 a1 m1 b1) ?_
    rintro _ _ ⟨u5, d5, rfl, rfl⟩
    refine W.cl [] (by kernel_rfl) (p_qwhole u5 d5) ?_
    rintro _ _ ⟨n6, a6, m6, b6, rfl, rfl⟩
    refine W.cl [] (by kernel_rfl) (p_qnear n1 a1 m1 b1) ?_
    rintro _ _ ⟨u7, d7, rfl, rfl⟩
    refine W.cl [] (by kernel_rfl) (p_qwhole u7 d7) ?_
    rintro _ _ ⟨n8, a8, m8, b8, rfl, rfl⟩
    refine W.cl [] (by kernel_rfl) (p_zof 1 (by omega) (by omega)) ?_
    rintro _ _ ⟨u9, d9, rfl, rfl⟩
    refine W.cl [] (by kernel_rfl) (p_qwhole u9 d9) ?_
    rintro _ _ ⟨n10, a10, m10, b10, rfl, rfl⟩
    refine W.cl [] (by kernel_rfl) (p_qof 1 2 (by omega) (by omega) (by omega) (by omega) (by omega)) ?_
    rintro _ _ ⟨n11, a11, m11, b11, rfl, rfl⟩
    refine W.cl [] (by kernel_rfl) (p_qsub n1 a1 m1 b1 n8 a8 m8 b8) ?_
    rintro _ _ ⟨n12, a12, m12, b12, rfl, rfl⟩
    refine W.cl [] (by kernel_rfl) (p_qsign n12 a12 m12 b12) ?_
    rintro _ _ ⟨rfl, rfl⟩
    refine W.d [] 50 (decide ((X - ((qnr X) : Rat)).num.sign < 0)) (by kernel_rfl) (fun hb => ?_) (fun hb => ?_)
    · refine W.cl [50] (by kernel_rfl) (p_qneg n12 a12 m12 b12) ?_
      rintro _ _ ⟨n14, a14, m14, b14, rfl, rfl⟩
      refine W.dt [] 55 ((qerr (qtxt X)) == 0) (by kernel_rfl) (by rw [hE]; rfl) ?_
      refine W.cl [55] (by kernel_rfl) (p_qcmp n4 a4 m4 b4 n1 a1 m1 b1) ?_
      rintro _ _ ⟨rfl, rfl⟩
      refine W.dt [55] 61 ((cmpQ (qval (qtxt X)) X) == 0) (by kernel_rfl) (by rw [hV, cmpQ_self]; rfl) ?_
      refine W.cl [61] (by kernel_rfl) (p_qcmp n6 a6 m6 b6 n1 a1 m1 b1) ?_
      rintro _ _ ⟨rfl, rfl⟩
      refine W.dt [61] 67 (decide ((cmpQ ((qfl X) : Rat) X) ≤ 0)) (by kernel_rfl) (decide_eq_true (cmpQ_le.2 (qfl_le X))) ?_
      refine W.cl [67] (by kernel_rfl) (p_qadd n6 a6 m6 b6 n10 a10 m10 b10) ?_
      rintro _ _ ⟨n17, a17, m17, b17, rfl, rfl⟩
      refine W.cl [67] (by kernel_rfl) (p_qcmp n17 a17 m17 b17 n1 a1 m1 b1) ?_
      rintro _ _ ⟨rfl, rfl⟩
      refine W.dt [67] 75 (decide ((cmpQ (((qfl X) : Rat) + ((1 : Int) : Rat)) X) > 0)) (by kernel_rfl) (decide_eq_true (cmpQ_gt.2 (qfl_lt X))) ?_
      refine W.cl [75] (by kernel_rfl) (p_qcmp n14 a14 m14 b14 n11 a11 m11 b11) ?_
      rintro _ _ ⟨rfl, rfl⟩
      refine W.dt [75] 81 (decide ((cmpQ (-(X - ((qnr X) : Rat))) (Rat.divInt 1 2)) ≤ 0)) (by kernel_rfl) (decide_eq_true (cmpQ_le.2 hN.2)) ?_
      refine W.cl [81] (by kernel_rfl) (p_qnum n6 a6 m6 b6) ?_
      rintro _ _ ⟨u20, d20, rfl, rfl⟩
      refine W.cl [81] (by kernel_rfl) (p_qwhole u20 d20) ?_
      rintro _ _ ⟨n21, a21, m21, b21, rfl, rfl⟩
      refine W.cl [81] (by kernel_rfl) (p_qcmp n21 a21 m21 b21 n6 a6 m6 b6) ?_
      rintro _ _ ⟨rfl, rfl⟩
      refine W.dt [81] 89 ((cmpQ (((qfl X) : Rat).num : Rat) ((qfl X) : Rat)) == 0) (by kernel_rfl) (by rw [show (((qfl X) : Rat).num : Rat) = ((qfl X) : Rat) from rfl, cmpQ_self]; rfl) ?_
      refine W.cl [89] (by kernel_rfl) (p_qfloor n6 a6 m6 b6) ?_
      rintro _ _ ⟨u23, d23, rfl, rfl⟩
      refine W.cl [89] (by kernel_rfl) (p_qnum n6 a6 m6 b6) ?_
      rintro _ _ ⟨u24, d24, rfl, rfl⟩
      refine W.cl [89] (by kernel_rfl) (p_zcmp u23 d23 u24 d24) ?_
      rintro _ _ ⟨rfl, rfl⟩
      refine W.dt [89] 97 ((cmpZ (qfl ((qfl X) : Rat)) ((qfl X) : Rat).num) == 0) (by kernel_rfl) (by rw [qfl_int, cmpZ_eq.2 rfl]; rfl) ?_
      refine W.cl [97] (by kernel_rfl) (p_qnear n8 a8 m8 b8) ?_
      rintro _ _ ⟨u26, d26, rfl, rfl⟩
      refine W.cl [97] (by kernel_rfl) (p_qnum n8 a8 m8 b8) ?_
      rintro _ _ ⟨u27, d27, rfl, rfl⟩
      refine W.cl [97] (by kernel_rfl) (p_zcmp u26 d26 u27 d27) ?_
      rintro _ _ ⟨rfl, rfl⟩
      exact W.r [97] (.bool ((cmpZ (qnr ((qnr X) : Rat)) ((qnr X) : Rat).num) == 0)) (by kernel_rfl) ⟨by rw [qnr_int, cmpZ_eq.2 rfl]; rfl, rfl⟩ ent0
    · refine W.dt [50] 55 ((qerr (qtxt X)) == 0) (by kernel_rfl) (by rw [hE]; rfl) ?_
      refine W.cl [55] (by kernel_rfl) (p_qcmp n4 a4 m4 b4 n1 a1 m1 b1) ?_
      rintro _ _ ⟨rfl, rfl⟩
      refine W.dt [55] 61 ((cmpQ (qval (qtxt X)) X) == 0) (by kernel_rfl) (by rw [hV, cmpQ_self]; rfl) ?_
      refine W.cl [61] (by kernel_rfl) (p_qcmp n6 a6 m6 b6 n1 a1 m1 b1) ?_
      rintro _ _ ⟨rfl, rfl⟩
      refine W.dt [61] 67 (decide ((cmpQ ((qfl X) : Rat) X) ≤ 0)) (by kernel_rfl) (decide_eq_true (cmpQ_le.2 (qfl_le X))) ?_
      refine W.cl [67] (by kernel_rfl) (p_qadd n6 a6 m6 b6 n10 a10 m10 b10) ?_
      rintro _ _ ⟨n31, a31, m31, b31, rfl, rfl⟩
      refine W.cl [67] (by kernel_rfl) (p_qcmp n31 a31 m31 b31 n1 a1 m1 b1) ?_
      rintro _ _ ⟨rfl, rfl⟩
      refine W.dt [67] 75 (decide ((cmpQ (((qfl X) : Rat) + ((1 : Int) : Rat)) X) > 0)) (by kernel_rfl) (decide_eq_true (cmpQ_gt.2 (qfl_lt X))) ?_
      refine W.cl [75] (by kernel_rfl) (p_qcmp n12 a12 m12 b12 n11 a11 m11 b11) ?_
      rintro _ _ ⟨rfl, rfl⟩
      refine W.dt [75] 81 (decide ((cmpQ (X - ((qnr X) : Rat)) (Rat.divInt 1 2)) ≤ 0)) (by kernel_rfl) (decide_eq_true (cmpQ_le.2 hN.1)) ?_
      refine W.cl [81] (by kernel_rfl) (p_qnum n6 a6 m6 b6) ?_
      rintro _ _ ⟨u34, d34, rfl, rfl⟩
      refine W.cl [81] (by kernel_rfl) (p_qwhole u34 d34) ?_
      rintro _ _ ⟨n35, a35, m35, b35, rfl, rfl⟩
      refine W.cl [81] (by kernel_rfl) (p_qcmp n35 a35 m35 b35 n6 a6 m6 b6) ?_
      rintro _ _ ⟨rfl, rfl⟩
      refine W.dt [81] 89 ((cmpQ (((qfl X) : Rat).num : Rat) ((qfl X) : Rat)) == 0) (by kernel_rfl) (by rw [show (((qfl X) : Rat).num : Rat) = ((qfl X) : Rat) from rfl, cmpQ_self]; rfl) ?_
      refine W.cl [89] (by kernel_rfl) (p_qfloor n6 a6 m6 b6) ?_
      rintro _ _ ⟨u37, d37, rfl, rfl⟩
      refine W.cl [89] (by kernel_rfl) (p_qnum n6 a6 m6 b6) ?_
      rintro _ _ ⟨u38, d38, rfl, rfl⟩
      refine W.cl [89] (by kernel_rfl) (p_zcmp u37 d37 u38 d38) ?_
      rintro _ _ ⟨rfl, rfl⟩
      refine W.dt [89] 97 ((cmpZ (qfl ((qfl X) : Rat)) ((qfl X) : Rat).num) == 0) (by kernel_rfl) (by rw [qfl_int, cmpZ_eq.2 rfl]; rfl) ?_
      refine W.cl [97] (by kernel_rfl) (p_qnear n8 a8 m8 b8) ?_
      rintro _ _ ⟨u40, d40, rfl, rfl⟩
      refine W.cl [97] (by kernel_rfl) (p_qnum n8 a8 m8 b8) ?_
      rintro _ _ ⟨u41, d41, rfl, rfl⟩
      refine W.cl [97] (by kernel_rfl) (p_zcmp u40 d40 u41 d41) ?_
      rintro _ _ ⟨rfl, rfl⟩
      exact W.r [97] (.bool ((cmpZ (qnr ((qnr X) : Rat)) ((qnr X) : Rat).num) == 0)) (by kernel_rfl) ⟨by rw [qnr_int, cmpZ_eq.2 rfl]; rfl, rfl⟩ ent0

end Go.Proofs.Ytmpcabpepnmfiaa
namespace Go.Proofs.Ytmpcabpepnmfiaa.fracBack
open Go.ChangeShapes Go.WideShapes Go.ChangeAt Go.RowKit
open Go.ChangeMaps (open_string shut_string)

theorem closed : joinedFacts Try.pinned.checked.prog 11 Try.f11 Rows.fracBackSpec Rows.fracBackRow = true := by
  unfold joinedFacts
  rw [show Try.pinned.checked.prog.mayEnter = true from jn_enter, show (Rows.fracBackRow.lifted == Try.pinned.checked.prog.liftsFinal) = true from jn_lift, show (Try.pinned.checked.prog.make == some Rows.fracBackRow.make) = true from jn_make,
    show laidOutB Try.pinned.checked.prog = true from jn_laid, show mapsRowed Try.pinned.checked.prog = true from jn_maps]
  kernel_rfl

set_option maxRecDepth 100000 in
theorem lifted (os : Os) (started : os.Started) (H : Type) (enc : TypeId × Value → H) :
    ReturnsInHanded {} Try.checked os 11 .any (Rows.fracBackSpec.pre6 enc Try.prog Try.f11 Rows.fracBackRow.domain false) (Rows.fracBackSpec.post enc Try.prog Try.f11 false true false false) := by
  refine returnsInHanded_of_change (C := Try.checked) jn_own started (by kernel_rfl) Try.func11
    (ChangeSpec.witness6 (enc := enc) (C := Try.checked) false ⟨#[], #[.string ⟨#[]⟩], []⟩ 8 (by kernel_rfl) (by kernel_rfl) (by kernel_rfl) (by kernel_rfl)) ?_
  intro W base args ds gs before hval0 hW hcnd _
  have hval : ∀ (j : Nat) t v, Try.f11.params[j]? = some t → args[j]? = some v → Value.okWide Try.prog W .any base t v := hval0
  have hW' := hW
  obtain ⟨p, q, hA0, hV, rfl, hfz, hnd⟩ := hW
  have hA : DataW.TrodAll enc Try.prog W 0 (fun _ => true) true Try.f11.params.toList args.toList ds p := hA0
  have hK := hA
  rw [Try.params11] at hA hval hK
  obtain ⟨v0, vs0, d0, ds0, p0, q0, hargs, rfl, rfl, h0, r0⟩ := trodAll_cons hA
  obtain ⟨rfl, rfl, rfl⟩ := trodAll_nil r0
  obtain rfl : args = #[v0] := by cases args; simp_all
  obtain ⟨rfl, rfl⟩ := trodVars_none hV
  obtain ⟨a0, rfl, rfl, rfl, w0⟩ := open_string Try.underlying9 (hval 0 9 v0 rfl rfl) h0
  clear hA0 hval0
  simp only [List.append_nil] at hW' hK
  refine (law_calls' (p_fracBack a0 w0) W (Holds.nil _ _)).mono fun e W' ⟨he, hg⟩ => ?_
  subst he
  exact ⟨_, rfl, law_post hW' rfl (fun _ _ _ => (trodAll_cons_mk (shut_bool Try.underlying4 _) trodAll_mk0)) (fun sp hsp => trodAll_stays jn_laid hg (by kernel_rfl) hK (fun x hx => hW'.lt x (by first | exact hx | simpa using hx)) (fun x hx => hsp x (by first | exact hx | simpa using hx))) rfl hg⟩

theorem over : Rows.fracBackRow.holds Try.pinned (OpenSpec.ofChange Rows.fracBackSpec) :=
  OpenClaim.holds_of_wide 11 Try.f11 rfl rfl rfl rfl rfl rfl rfl ⟨rfl, rfl, rfl, rfl, rfl⟩ rfl rfl rfl rfl rfl (by kernel_rfl) Try.func11 closed
    (of_decide_eq_true (by kernel_rfl)) (by unfold Func.isWrapper; first | (rw [if_pos (by decide +kernel)]; kernel_rfl) | (rw [if_neg (by decide +kernel)]; exact ⟨rfl, rfl⟩))
    (fun os started H enc _ => lifted os started H enc)
end Go.Proofs.Ytmpcabpepnmfiaa.fracBack
namespace Go.Proofs.Ytmpcabpepnmfiaa

/-- The statement. -/
theorem fracBack_holds : Rows.FracBackSaid := fracBack.over
end Go.Proofs.Ytmpcabpepnmfiaa
