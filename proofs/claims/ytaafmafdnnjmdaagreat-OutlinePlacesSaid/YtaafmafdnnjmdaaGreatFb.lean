/- Numbers as texts, read again. -/
import Derived.Test.YtaafmafdnnjmdaaGreatFr
import Derived.Test.YtaafmafdnnjmdaaGreatVx
set_option linter.unusedSimpArgs false
set_option linter.unusedVariables false
namespace Go.Proofs.YtaafmafdnnjmdaaGreat
open Go.RowKit Go.IntWalk
theorem bs_take9 (s : ByteArray) (n : Nat) : bs (s.extract 0 n) = (bs s).take n := by
  unfold bs
  rw [Lib.extract_data, List.drop_zero, List.map_take, Nat.sub_zero]
theorem ztxt_bytes9 (x : Int) : ∀ b ∈ bs (ztxt x), b ≠ 47 := by
  intro b hb
  have hd : ∀ b ∈ bs (txt (dec x.natAbs)), b ≠ 47 := fun b hb => by
    rw [bs_dec] at hb
    have := dec_digs _ b hb
    omega
  unfold ztxt at hb
  split at hb
  · rw [bs_append] at hb
    rcases List.mem_append.1 hb with h | h
    · have : b = 45 := by simpa [bs] using h
      omega
    · exact hd b h
  · exact hd b hb
theorem idx_none9 {l : List Nat} (h : ∀ b ∈ l, b ≠ 47) : l.findIdx (· == 47) = l.length := by
  rw [List.findIdx_eq_length]
  intro b hb
  simpa using h b hb
theorem qtxt_back9 {q : Rat} (h1 : (txt (dec q.num.natAbs)).size ≤ 4000) (h2 : (txt (dec q.den)).size ≤ 4000) : qerr (qtxt q) = 0 ∧ qval (qtxt q) = q := by
  obtain ⟨e1, e2⟩ := zerr_ztxt (x := q.num) (by omega)
  by_cases hd : q.den = 1
  · have ht : qtxt q = ztxt q.num := by unfold qtxt; rw [if_pos hd]
    have hs : sidx (ztxt q.num) = (ztxt q.num).size := by
      unfold sidx
      rw [idx_none9 (ztxt_bytes9 _), bs_size]
    have ho := over_all (s := ztxt q.num) (by omega)
    have hE : qerr (ztxt q.num) = 0 := by unfold qerr; rw [ho, if_neg (by rw [e1]; decide), if_neg (by omega)]
    rw [ht]
    refine ⟨hE, ?_⟩
    unfold qval
    rw [if_neg (by rw [hE]; decide), if_neg (by omega), ho, e2, ← q_divInt1]
    exact eq_of_cross (by omega) (by rw [hd]; rfl)
  · have ht : qtxt q = ztxt q.num ++ ⟨#[47]⟩ ++ ztxt q.den := by unfold qtxt; rw [if_neg hd]
    have hbs : bs (qtxt q) = bs (ztxt q.num) ++ (47 :: bs (ztxt q.den)) := by
      rw [ht, bs_append, bs_append]
      simp [bs]
    have hs : sidx (qtxt q) = (ztxt q.num).size := by
      unfold sidx
      rw [hbs, List.findIdx_append, idx_none9 (ztxt_bytes9 _)]
      simp [bs_size, List.findIdx_cons]
    have hsz : (qtxt q).size = (ztxt q.num).size + 1 + (ztxt q.den).size := by
      rw [ht, ByteArray.size_append, ByteArray.size_append]
      rfl
    have ho : over (qtxt q) = ztxt q.num := by
      apply bs_ext
      unfold over
      rw [bs_take9, hbs, hs]
      exact List.take_left' (bs_size _)
    have hzd : ztxt (q.den : Int) = txt (dec q.den) := by
      unfold ztxt
      rw [if_neg (by omega)]
      rfl
    have hu : under (qtxt q) = txt (dec q.den) := by
      rw [← hzd]
      apply bs_ext
      unfold under
      rw [bs_drop, hbs, hs, show (ztxt q.num).size + 1 = (bs (ztxt q.num)).length + 1 by rw [bs_size]]
      simp
    obtain ⟨p1, p2⟩ := perr_txt (x := q.den) (by omega)
    have hlt : sidx (qtxt q) < (qtxt q).size := by omega
    have hdp := q.den_pos
    have hE : qerr (qtxt q) = 0 := by
      unfold qerr
      rw [ho, if_neg (by rw [e1]; decide), if_pos hlt, hu, if_neg (by rw [p1]; decide), if_neg (by rw [p2]; omega)]
    refine ⟨hE, ?_⟩
    unfold qval
    rw [if_neg (by rw [hE]; decide), if_pos hlt, ho, hu, e2, p2]
    exact Rat.num_divInt_den q

theorem pow8 (k : Nat) : 2 ^ (3 * k) ≤ 10 ^ k := by
  rw [Nat.pow_mul]
  exact Nat.pow_le_pow_left (by decide) k
theorem dec_size {x k : Nat} (h : x < 2 ^ (3 * k)) : (txt (dec x)).size ≤ k + 1 := by
  have h1 := dl_len k x (Nat.lt_of_lt_of_le h (pow8 k))
  rw [txt_size]
  unfold dec
  split
  · simp
  · simp
    omega
theorem ztxt_size {x : Int} {k : Nat} (h : x.natAbs < 2 ^ (3 * k)) : (ztxt x).size ≤ k + 2 := by
  have := dec_size h
  unfold ztxt
  split
  · rw [ByteArray.size_append]
    show 1 + _ ≤ _
    omega
  · omega
theorem qtxt_size {q : Rat} {k : Nat} (h1 : q.num.natAbs < 2 ^ (3 * k)) (h2 : q.den < 2 ^ (3 * k)) : (qtxt q).size ≤ 2 * k + 5 := by
  have e1 := ztxt_size h1
  have e2 := ztxt_size (x := (q.den : Int)) (k := k) (by omega)
  unfold qtxt
  split
  · omega
  · rw [ByteArray.size_append, ByteArray.size_append]
    show _ + 1 + _ ≤ _
    omega
/-- A number of no more bits is read as it was written. -/
theorem q_back {q : Rat} {k : Nat} (hk : k ≤ 1000) (h1 : q.num.natAbs < 2 ^ (3 * k)) (h2 : q.den < 2 ^ (3 * k)) : qerr (qtxt q) = 0 ∧ qval (qtxt q) = q ∧ (qtxt q).size ≤ 2 * k + 5 := by
  have e1 := dec_size h1
  have e2 := dec_size h2
  obtain ⟨a, b⟩ := qtxt_back9 (q := q) (by omega) (by omega)
  exact ⟨a, b, qtxt_size h1 h2⟩
theorem z_back {x : Int} {k : Nat} (hk : k ≤ 1000) (h1 : x.natAbs < 2 ^ (3 * k)) : zerr (ztxt x) = 0 ∧ zval (ztxt x) = x ∧ (ztxt x).size ≤ k + 2 := by
  have e1 := dec_size h1
  obtain ⟨a, b⟩ := zerr_ztxt (x := x) (by omega)
  exact ⟨a, b, ztxt_size h1⟩
end Go.Proofs.YtaafmafdnnjmdaaGreat
