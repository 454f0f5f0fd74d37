/- Quotients of whole numbers: plain laws. Texts of numbers are read as these. The contracts of frac. The contracts of the reference's quotients. Texts of quotients are read: by frac and by the reference. What frac's laws share. The least and the greatest of some quotients. -/
import Derived.Test.YtaafmafdnnjmdaaGreatLawZ
import Derived.Lib.Bytealg
import Derived.Test.YtaafmafdnnjmdaaGreatVy
set_option linter.unusedSimpArgs false
set_option linter.unusedVariables false
namespace Go.Proofs.YtaafmafdnnjmdaaGreat
open Go.RowKit Go.IntWalk

def cmpQ (x y : Rat) : Int := if x < y then -1 else if x = y then 0 else 1
theorem low_pos {x y : Int} (hy : 0 < y) : (Rat.divInt x y).num = x / (Nat.gcd x.natAbs y.natAbs : Nat) ∧ ((Rat.divInt x y).den : Int) = y / (Nat.gcd x.natAbs y.natAbs : Nat) := by
  have hg : Int.gcd y x = Nat.gcd x.natAbs y.natAbs := by rw [Int.gcd_comm]; rfl
  refine ⟨?_, ?_⟩
  · rw [Rat.num_divInt, hg, Int.sign_eq_one_of_pos hy, Int.one_mul]
  · rw [Rat.den_divInt, if_neg (by omega), hg, Int.natCast_ediv, show ((y.natAbs : Nat) : Int) = y by omega]
theorem low_neg {x y : Int} (hy : y < 0) : (Rat.divInt x y).num = -(x / (Nat.gcd x.natAbs y.natAbs : Nat)) ∧ ((Rat.divInt x y).den : Int) = -(y / (Nat.gcd x.natAbs y.natAbs : Nat)) := by
  have hg : Int.gcd y x = Nat.gcd x.natAbs y.natAbs := by rw [Int.gcd_comm]; rfl
  have d1 : ((Nat.gcd x.natAbs y.natAbs : Nat) : Int) ∣ x := Int.ofNat_dvd_left.2 (Nat.gcd_dvd_left _ _)
  have d2 : ((Nat.gcd x.natAbs y.natAbs : Nat) : Int) ∣ y := Int.ofNat_dvd_left.2 (Nat.gcd_dvd_right _ _)
  refine ⟨?_, ?_⟩
  · rw [Rat.num_divInt, hg, Int.sign_eq_neg_one_of_neg hy, Int.neg_one_mul, Int.neg_ediv_of_dvd d1]
  · rw [Rat.den_divInt, if_neg (by omega), hg, Int.natCast_ediv, show ((y.natAbs : Nat) : Int) = -y by omega, Int.neg_ediv_of_dvd d2]
theorem abs_div_dvd {x : Int} {g : Nat} (h : (g : Int) ∣ x) (hg : 0 < g) : (x / (g : Int)).natAbs ≤ x.natAbs := by
  obtain ⟨k, rfl⟩ := h
  rw [Int.mul_ediv_cancel_left _ (by omega), Int.natAbs_mul]
  show k.natAbs ≤ g * k.natAbs
  exact Nat.le_mul_of_pos_left _ hg

theorem den_pos' (q : Rat) : (0 : Int) < q.den := by
  have := q.den_pos
  omega
theorem q_add (a b : Rat) : Rat.divInt (a.num * b.den + b.num * a.den) (a.den * b.den) = a + b := by
  rw [Rat.add_def', ← Int.natCast_mul, Rat.divInt_ofNat]
theorem q_mul (a b : Rat) : Rat.divInt (a.num * b.num) (a.den * b.den) = a * b := by
  rw [Rat.mul_def', ← Int.natCast_mul, Rat.divInt_ofNat]
theorem q_div (a b : Rat) : Rat.divInt (a.num * b.den) (a.den * b.num) = a / b := by
  rw [Rat.div_def]
  conv => rhs; rw [← Rat.num_divInt_den a, ← Rat.num_divInt_den b, Rat.inv_divInt, Rat.divInt_mul_divInt]
theorem q_divInt1 (x : Int) : Rat.divInt x 1 = (x : Rat) := by
  rw [show (1 : Int) = ((1 : Nat) : Int) from rfl, Rat.divInt_ofNat, Rat.mkRat_one]
theorem eq_of_cross {n d : Int} {q : Rat} (hd : d ≠ 0) (h : n * q.den = q.num * d) : Rat.divInt n d = q := by
  conv => rhs; rw [← Rat.num_divInt_den q]
  rw [Rat.divInt_eq_divInt_iff hd (by have := q.den_pos; omega)]
  exact h
/-- n/d in lowest terms: by which number both are multiplied. -/
theorem parts_of {n d : Int} {q : Rat} (hd : 0 < d) (h : q = Rat.divInt n d) : ∃ g : Int, 0 < g ∧ n = q.num * g ∧ d = q.den * g := by
  obtain ⟨hn, hdd⟩ := (show (Rat.divInt n d).num = n / (Nat.gcd n.natAbs d.natAbs : Nat) ∧ ((Rat.divInt n d).den : Int) = d / (Nat.gcd n.natAbs d.natAbs : Nat) by
    have hg : Int.gcd d n = Nat.gcd n.natAbs d.natAbs := by rw [Int.gcd_comm]; rfl
    refine ⟨?_, ?_⟩
    · rw [Rat.num_divInt, hg, Int.sign_eq_one_of_pos hd, Int.one_mul]
    · rw [Rat.den_divInt, if_neg (by omega), hg, Int.natCast_ediv, show ((d.natAbs : Nat) : Int) = d by omega])
  subst h
  have hgp : 0 < Nat.gcd n.natAbs d.natAbs := Nat.gcd_pos_of_pos_right _ (by omega)
  refine ⟨(Nat.gcd n.natAbs d.natAbs : Nat), by omega, ?_, ?_⟩
  · rw [hn]
    exact (Int.ediv_mul_cancel (Int.ofNat_dvd_left.2 (Nat.gcd_dvd_left _ _))).symm
  · rw [hdd]
    exact (Int.ediv_mul_cancel (Int.ofNat_dvd_left.2 (Nat.gcd_dvd_right _ _))).symm
theorem cmpQ_cross {n d m e : Int} {a b : Rat} (hd : 0 < d) (he : 0 < e) (ha : a = Rat.divInt n d) (hb : b = Rat.divInt m e) : cmpZ (n * e) (m * d) = cmpQ a b := by
  obtain ⟨g, hg, rfl, rfl⟩ := parts_of hd ha
  obtain ⟨k, hk, rfl, rfl⟩ := parts_of he hb
  have e1 : a.num * g * (b.den * k) = (a.num * b.den) * (g * k) := by grind
  have e2 : b.num * k * (a.den * g) = (b.num * a.den) * (g * k) := by grind
  have hgk : 0 < g * k := Int.mul_pos hg hk
  have h1 : (a.num * b.den * (g * k) < b.num * a.den * (g * k)) ↔ a < b := by
    rw [Rat.lt_iff]
    exact ⟨fun h => Int.lt_of_mul_lt_mul_right h (Int.le_of_lt hgk), fun h => Int.mul_lt_mul_of_pos_right h hgk⟩
  have h2 : (a.num * b.den * (g * k) = b.num * a.den * (g * k)) ↔ a = b := by
    rw [Int.mul_eq_mul_right_iff (by omega), Rat.eq_iff_mul_eq_mul]
  unfold cmpZ cmpQ
  rw [e1, e2]
  simp only [h1, h2]
theorem cmpQ_parts (a b : Rat) : cmpZ (a.num * b.den) (b.num * a.den) = cmpQ a b := cmpQ_cross (den_pos' a) (den_pos' b) (Rat.num_divInt_den a).symm (Rat.num_divInt_den b).symm
theorem sign_of {n d : Int} {q : Rat} (hd : 0 < d) (h : q = Rat.divInt n d) : n.sign = q.num.sign := by
  obtain ⟨g, hg, rfl, rfl⟩ := parts_of hd h
  rw [Int.sign_mul, Int.sign_eq_one_of_pos hg, Int.mul_one]
theorem sign_eq0 {q : Rat} : q.num.sign = 0 ↔ q = 0 := by rw [Int.sign_eq_zero_iff_zero, Rat.num_eq_zero]
theorem sign_cmp {q : Rat} : q.num.sign = cmpQ q 0 := by
  unfold cmpQ
  by_cases h : q < 0
  · rw [if_pos h]
    rw [Rat.lt_iff] at h
    exact Int.sign_eq_neg_one_of_neg (by simpa using h)
  · rw [if_neg h]
    by_cases h0 : q = 0
    · rw [if_pos h0, h0]; rfl
    · rw [if_neg h0]
      rw [Rat.lt_iff] at h
      have : q.num ≠ 0 := fun e => h0 (Rat.num_eq_zero.1 e)
      have h : ¬ q.num < 0 := by simpa using h
      exact Int.sign_eq_one_of_pos (by omega)
theorem dl_digs : ∀ (n x : Nat), x ≤ n → ∀ d ∈ dl x, d ≤ 9 := by
  intro n
  induction n with
  | zero => intro x h d hd; have : x = 0 := by omega
            subst this; rw [dl_zero] at hd; simp at hd
  | succ n ih =>
    intro x h d hd
    by_cases hx : x = 0
    · subst hx; rw [dl_zero] at hd; simp at hd
    · rw [dl_pos hx] at hd
      rcases List.mem_cons.1 hd with rfl | hd
      · omega
      · exact ih (x / 10) (by omega) d hd
theorem dl_last : ∀ (n x : Nat), x ≤ n → x ≠ 0 → ∃ a, (dl x).getLast? = some a ∧ 1 ≤ a := by
  intro n
  induction n with
  | zero => intro x h hx; omega
  | succ n ih =>
    intro x h hx
    rw [dl_pos hx]
    by_cases h1 : x / 10 = 0
    · rw [h1, dl_zero]
      exact ⟨x % 10, rfl, by omega⟩
    · obtain ⟨a, ha, h2⟩ := ih (x / 10) (by omega) h1
      refine ⟨a, ?_, h2⟩
      rw [List.getLast?_cons, ha]
      rfl
theorem dec_digs (x : Nat) : Digs (dec x) := by
  intro d hd
  unfold dec at hd
  split at hd
  · simp at hd; omega
  · have : ∃ a ∈ dl x, a + 48 = d := by simpa using hd
    obtain ⟨a, ha, rfl⟩ := this
    have := dl_digs x x (Nat.le_refl _) a ha
    omega
theorem dec_head {x : Nat} (hx : x ≠ 0) : ∃ a, (dec x).head? = some a ∧ 49 ≤ a := by
  obtain ⟨a, ha, h1⟩ := dl_last x x (Nat.le_refl _) hx
  refine ⟨a + 48, ?_, by omega⟩
  unfold dec
  rw [if_neg hx, List.head?_reverse, List.getLast?_map, ha]
  rfl
theorem dec_ne (x : Nat) : dec x ≠ [] := by
  by_cases hx : x = 0
  · subst hx; decide
  · intro e
    obtain ⟨a, ha, _⟩ := dec_head hx
    rw [e] at ha
    simp at ha
theorem dec_good {x : Nat} (h : (dec x).length ≤ 4096) : Good (dec x) := by
  refine ⟨dec_ne x, h, dec_digs x, fun hl => ?_⟩
  by_cases hx : x = 0
  · subst hx; simp [dec] at hl
  · obtain ⟨a, ha, h1⟩ := dec_head hx
    rw [ha]
    simp
    omega

/-- A quotient's text. -/
def qtxt (q : Rat) : ByteArray := if q.den = 1 then ztxt q.num else ztxt q.num ++ ⟨#[47]⟩ ++ ztxt q.den

theorem txt_size {l : List Nat} : (txt l).size = l.length := by
  show (List.map _ l).toArray.size = _
  simp
theorem bs_dec (x : Nat) : bs (txt (dec x)) = dec x := bs_txt (dec_lt x)
theorem perr_txt {x : Nat} (h : (txt (dec x)).size ≤ 4096) : perr (txt (dec x)) = 0 ∧ pval (txt (dec x)) = x := by
  rw [txt_size] at h
  have := perr_ok (s := txt (dec x)) (by rw [bs_dec]; exact dec_good h)
  rw [bs_dec, dval_dec] at this
  exact this
theorem sneg_txt (x : Nat) : sneg (txt (dec x)) = false := by
  unfold sneg
  rw [bs_dec]
  cases he : dec x with
  | nil => rfl
  | cons a l =>
    have := dec_digs x a (by rw [he]; simp)
    simp
    omega
theorem bs_ext {s t : ByteArray} (h : bs s = bs t) : s = t := by
  apply ByteArray.ext
  apply Array.ext'
  unfold bs at h
  exact List.map_inj_right (fun a b hab => UInt8.toNat_inj.1 hab) |>.1 h
theorem sdig_minus (x : Nat) : sneg (⟨#[45]⟩ ++ txt (dec x)) = true ∧ sdig (⟨#[45]⟩ ++ txt (dec x)) = txt (dec x) := by
  have h1 : sneg (⟨#[45]⟩ ++ txt (dec x)) = true := by
    unfold sneg
    rw [show bs (⟨#[45]⟩ ++ txt (dec x)) = 45 :: bs (txt (dec x)) by unfold bs; simp]
    rfl
  refine ⟨h1, ?_⟩
  unfold sdig
  rw [if_pos h1]
  apply bs_ext
  rw [bs_drop]
  show List.drop 1 (bs (⟨#[45]⟩ ++ txt (dec x))) = _
  rw [show bs (⟨#[45]⟩ ++ txt (dec x)) = 45 :: bs (txt (dec x)) by unfold bs; simp]
  rfl
theorem zerr_ztxt {x : Int} (h : (txt (dec x.natAbs)).size ≤ 4096) : zerr (ztxt x) = 0 ∧ zval (ztxt x) = x := by
  obtain ⟨p1, p2⟩ := perr_txt h
  by_cases hx : x < 0
  · obtain ⟨h1, h2⟩ := sdig_minus x.natAbs
    have hz : ztxt x = ⟨#[45]⟩ ++ txt (dec x.natAbs) := by unfold ztxt; rw [if_pos hx]
    rw [← hz] at h1 h2
    have hs : (ztxt x).size ≤ 4097 := by rw [hz, ByteArray.size_append]; show 1 + _ ≤ _; omega
    obtain ⟨a, b⟩ := zperr_m (s := ztxt x) (by rw [h2]; exact p1) h1 (by rw [h2, p2]; omega)
    refine ⟨by rw [zerr_short (by omega) (by rw [h2]; omega)]; exact a, ?_⟩
    rw [b, h2, p2]
    omega
  · have h1 := sneg_txt x.natAbs
    have hz : ztxt x = txt (dec x.natAbs) := by unfold ztxt; rw [if_neg hx]
    rw [← hz] at h1
    have h2 := sdig_pos h1
    obtain ⟨a, b⟩ := zperr_p (s := ztxt x) (by rw [h2, hz]; exact p1) h1
    refine ⟨by rw [zerr_short (by rw [hz]; omega) (by rw [h2, hz]; omega)]; exact a, ?_⟩
    rw [b, h2, hz, p2]
    omega

abbrev qv (n : Sl) (nb : Bool) (d : Sl) (db : Bool) : Value := .agg #[.slice n.ao n.n n.c, .bool nb, .slice d.ao d.n d.c, .bool db]
abbrev pv (S : Int) (s : Sl) (R : Int) (t : Sl) : Value := .agg #[.int .i64 S, .slice s.ao s.n s.c, .int .i64 R, .slice t.ao t.n t.c]

/-- The place of the first stroke; the text's size, if there is none. -/
def sidx (s : ByteArray) : Nat := (bs s).findIdx (· == 47)
def over (s : ByteArray) : ByteArray := s.extract 0 (sidx s)
def under (s : ByteArray) : ByteArray := s.extract (sidx s + 1) s.size
/-- A quotient's text: which error. -/
def qerr (s : ByteArray) : Int := if zerr (over s) ≠ 0 then zerr (over s) else if sidx s < s.size then (if perr (under s) ≠ 0 then perr (under s) else if pval (under s) = 0 then 5 else 0) else 0
/-- Which quotient. -/
def qval (s : ByteArray) : Rat := if qerr s ≠ 0 then 0 else if sidx s < s.size then Rat.divInt (zval (over s)) (pval (under s)) else (zval (over s) : Rat)
theorem sidx_le (s : ByteArray) : sidx s ≤ s.size := by
  unfold sidx
  have := List.findIdx_le_length (p := (· == 47)) (xs := bs s)
  rwa [bs_size] at this
theorem over_all {s : ByteArray} (h : ¬ sidx s < s.size) : over s = s := by
  unfold over
  rw [show sidx s = s.size by have := sidx_le s; omega]
  exact ByteArray.extract_zero_size

end Go.Proofs.YtaafmafdnnjmdaaGreat

set_option linter.unusedSimpArgs false
set_option linter.unusedVariables false
namespace Go.Proofs.YtaafmafdnnjmdaaGreat
open Go.RowKit Go.IntWalk

/-- A quotient of frac: a denominator of 0 stands for 1. -/
def QF (n : Sl) (nb : Bool) (d : Sl) (db : Bool) (a : Nat × Rat) : Fact where
  p I w := ∃ y : Int, (ZF n nb (a.1, a.2.num)).p I w ∧ (ZF d db (a.1, y)).p I w ∧ (y = a.2.den ∨ (y = 0 ∧ a.2.den = 1))
  up := by
    rintro I I' w w' ⟨y, h, h', hy⟩ h1 h2 h3
    exact ⟨y, (ZF n nb _).up h h1 h2 h3, (ZF d db _).up h' h1 h2 h3, hy⟩
def QPost (L : Nat) (q : Rat) (v : Value) (Δ : List Fact) : Prop := ∃ (n : Sl) (nb : Bool) (d : Sl) (db : Bool), v = qv n nb d db ∧ Δ = [QF n nb d db (L, q)]
/-- With no error. -/
def QOk (L : Nat) (q : Rat) (v : Value) (Δ : List Fact) : Prop := ∃ (n : Sl) (nb : Bool) (d : Sl) (db : Bool), v = .tuple #[qv n nb d db, .int .i64 0] ∧ Δ = [QF n nb d db (L, q)]
section
variable {fin : VS → List Fact → Prop} {Γ : List Fact} {L M : Nat}

theorem W.qf {P : Program} {c : Cfg} (n : Sl) (nb : Bool) (d : Sl) (db : Bool) {q : Rat} [h : Has (QF n nb d db) (L, q) Γ] (hm : midOps c.k = false)
    (hk : ∀ y : Int, (y = q.den ∨ (y = 0 ∧ q.den = 1)) → W tb P fin c (ZF n nb (L, q.num) :: ZF d db (L, y) :: Γ)) : W tb P fin c Γ :=
  W.elim (α := Int) (fun y => y = q.den ∨ (y = 0 ∧ q.den = 1)) (fun y => [ZF n nb (L, q.num), ZF d db (L, y)]) hm (fun I w _ hh => by
    obtain ⟨y, h1, h2, h3⟩ := h.p hh
    exact ⟨y, h3, Holds.cons h1 (holds1 h2)⟩) hk
/-- The numerator alone. -/
theorem W.qn {P : Program} {c : Cfg} (n : Sl) (nb : Bool) (d : Sl) (db : Bool) {q : Rat} [h : Has (QF n nb d db) (L, q) Γ] (hm : midOps c.k = false)
    (hk : W tb P fin c (ZF n nb (L, q.num) :: Γ)) : W tb P fin c Γ :=
  W.elim (α := Unit) (fun _ => True) (fun _ => [ZF n nb (L, q.num)]) hm (fun I w _ hh => by
    obtain ⟨y, h1, h2, h3⟩ := h.p hh
    exact ⟨(), trivial, holds1 h1⟩) (fun _ _ => hk)
theorem entQ {n d : Sl} {nb db : Bool} {L' : Nat} {q q' : Rat} [h : Has (QF n nb d db) (L, q) Γ] (hL : L ≤ L') (hq : q = q') : ∀ (I : Blk) (w : World), DataOK tb I w → Holds Γ I w → Holds [QF n nb d db (L', q')] I w := fun I w _ hh => by
  subst hq
  obtain ⟨y, ⟨⟨h1, h2, h3⟩, h4⟩, ⟨⟨g1, g2, g3⟩, g4⟩, hy⟩ := h.p hh
  exact holds1 ⟨y, ⟨⟨h1, h2, Nat.le_trans h3 hL⟩, h4⟩, ⟨⟨g1, g2, Nat.le_trans g3 hL⟩, g4⟩, hy⟩
/-- Of two whole numbers. -/
theorem entZQ {n d : Sl} {nb db : Bool} {L' : Nat} {x y : Int} {q : Rat} [h : Has (ZF n nb) (L, x) Γ] [h' : Has (ZF d db) (M, y) Γ] (hL : L ≤ L') (hM : M ≤ L') (hx : x = q.num) (hy : y = q.den ∨ (y = 0 ∧ q.den = 1)) : ∀ (I : Blk) (w : World), DataOK tb I w → Holds Γ I w → Holds [QF n nb d db (L', q)] I w := fun I w _ hh => by
  subst hx
  obtain ⟨⟨h1, h2, h3⟩, h4⟩ := h.p hh
  obtain ⟨⟨g1, g2, g3⟩, g4⟩ := h'.p hh
  exact holds1 ⟨y, ⟨⟨h1, h2, Nat.le_trans h3 hL⟩, h4⟩, ⟨⟨g1, g2, Nat.le_trans g3 hM⟩, g4⟩, hy⟩
theorem entQ0 {L' : Nat} : ∀ (I : Blk) (w : World), DataOK tb I w → Holds Γ I w → Holds [QF ⟨none, 0, 0⟩ false ⟨none, 0, 0⟩ false (L', 0)] I w := fun I w hd hh =>
  holds1 ⟨0, (entZnil (L' := L') I w hd hh).h0', (entZnil (L' := L') I w hd hh).h0', .inr ⟨rfl, rfl⟩⟩
/-- A number that is no farther from 0 than another needs no more room. -/
theorem fitZ {I : Blk} {w : World} {u t : Sl} {d c : Bool} {L M L' : Nat} {x y : Int} (h : (ZF u d (L, x)).p I w) (h' : (ZF t c (M, y)).p I w) (hx : x.natAbs ≤ y.natAbs) (hL : M ≤ L') : (ZF u d (L', x)).p I w := by
  obtain ⟨⟨h1, h2, h3⟩, h4⟩ := h
  obtain ⟨⟨g1, g2, g3⟩, g4⟩ := h'
  have h1 : NatS w u x.natAbs := h1
  have g1 : NatS w t y.natAbs := g1
  have := h1.n_le g1 hx
  simp only at g3
  exact ⟨⟨h1, h2, by simp only; omega⟩, h4⟩
/-- How long its text may be. -/
theorem W.zsz {P : Program} {c : Cfg} (s : Sl) (b : Bool) {x : Int} [h : Has (ZF s b) (L, x) Γ] (hm : midOps c.k = false) (hk : (ztxt x).size ≤ 1000000000 → W tb P fin c Γ) (hL : L ≤ 10000000 := by omega) : W tb P fin c Γ :=
  W.know _ hm (fun I w _ hh => by
    obtain ⟨⟨h1, h2, h3⟩, _⟩ := h.p hh
    have h1 : NatS w s x.natAbs := h1
    have := txt_dec_size (dl_bound h1)
    simp only at h3
    unfold ztxt
    split
    · rw [ByteArray.size_append]; show 1 + _ ≤ _; omega
    · omega) hk
/-- What is in lowest terms needs no more room. -/
theorem entQl {n d u t : Sl} {nb db ub tb' : Bool} {L' L1 M1 : Nat} {x y a b : Int} {q : Rat} [h1 : Has (ZF u ub) (L1, a) Γ] [h2 : Has (ZF t tb') (M1, b) Γ] [h3 : Has (ZF n nb) (L, x) Γ] [h4 : Has (ZF d db) (M, y) Γ]
    (ha : a = q.num) (hb : b = q.den) (hx : a.natAbs ≤ x.natAbs) (hy : b.natAbs ≤ y.natAbs) (hL : L ≤ L') (hM : M ≤ L') : ∀ (I : Blk) (w : World), DataOK tb I w → Holds Γ I w → Holds [QF u ub t tb' (L', q)] I w := fun I w _ hh => by
  refine holds1 ⟨b, ?_, fitZ (h2.p hh) (h4.p hh) hy hM, .inl hb⟩
  rw [← ha]
  exact fitZ (h1.p hh) (h3.p hh) hx hL

theorem p_qlowest (n : Sl) (nb : Bool) (d : Sl) (db : Bool) {x y : Int} [hn : Has (ZF n nb) (L, x) Γ] [hd : Has (ZF d db) (M, y) Γ] (hy : y ≠ 0) (hL : L ≤ 1000000000 := by omega) (hM : M ≤ 1000000000 := by omega) :
    PCalls tb Tryz.prog 84 [zv n nb, zv d db] Γ (QPost (max L M) (Rat.divInt x y)) := by
  have hgp : 0 < Nat.gcd x.natAbs y.natAbs := Nat.gcd_pos_of_pos_right _ (by omega)
  have d1 : ((Nat.gcd x.natAbs y.natAbs : Nat) : Int) ∣ x := Int.ofNat_dvd_left.2 (Nat.gcd_dvd_left _ _)
  have d2 : ((Nat.gcd x.natAbs y.natAbs : Nat) : Int) ∣ y := Int.ofNat_dvd_left.2 (Nat.gcd_dvd_right _ _)
  have b1 := abs_div_dvd d1 hgp
  have b2 := abs_div_dvd d2 hgp
  have l1 := fun h => low_pos (x := x) (y := y) h
  have l2 := fun h => low_neg (x := x) (y := y) h
  obtain ⟨g, hg⟩ : ∃ g, g = Nat.gcd x.natAbs y.natAbs := ⟨_, rfl⟩
  rw [← hg] at hgp d1 d2 b1 b2 l1 l2
  have hs : (y / (g : Int)).sign = y.sign := by
    obtain ⟨k, hk⟩ := d2
    rw [hk, Int.mul_ediv_cancel_left _ (by omega), Int.sign_mul, show (g : Int).sign = 1 from Int.sign_eq_one_of_pos (by omega), Int.one_mul]
  refine PCalls.of_W tbOk Tryz.func84 rfl (by kernel_rfl) ?_
  refine W.cl [] (by kernel_rfl) (p_zabs n nb) ?_
  rintro _ _ ⟨rfl, rfl⟩
  refine W.cl [] (by kernel_rfl) (p_zabs d db) ?_
  rintro _ _ ⟨rfl, rfl⟩
  refine W.cl [] (by kernel_rfl) (p_gcd n d) ?_
  rintro _ _ ⟨u3, rfl, rfl⟩
  rw [← hg]
  refine W.cl [] (by kernel_rfl) (p_of' 1 1 rfl (by omega)) ?_
  rintro _ _ ⟨u4, rfl, rfl⟩
  refine W.cl [] (by kernel_rfl) (p_cmp u3 u4) ?_
  rintro _ _ ⟨rfl, rfl⟩
  refine W.d [] 16 ((cmpN g 1) != 0) (by kernel_rfl) (fun hb => ?_) (fun hb => ?_)
  · refine W.cl [16] (by kernel_rfl) (p_zbig u3) ?_
    rintro _ _ ⟨u6, d6, rfl, rfl⟩
    refine W.cl [] (by kernel_rfl) (p_zfloor n nb u6 d6 (by omega)) ?_
    rintro _ _ ⟨u7, d7, v7, e7, rfl, rfl⟩
    refine W.cl [] (by kernel_rfl) (p_zbig u3) ?_
    rintro _ _ ⟨u8, d8, rfl, rfl⟩
    refine W.cl [] (by kernel_rfl) (p_zfloor d db u8 d8 (by omega)) ?_
    rintro _ _ ⟨u9, d9, v9, e9, rfl, rfl⟩
    refine W.cl [] (by kernel_rfl) (p_zsign u9 d9) ?_
    rintro _ _ ⟨rfl, rfl⟩
    rw [hs]
    by_cases hn0 : y < 0
    · refine W.dt [] 35 (decide (y.sign < 0)) (by kernel_rfl) (by rw [decide_eq_true_iff, sign_lt]; exact hn0) ?_
      refine W.cl [35] (by kernel_rfl) (p_zneg u7 d7) ?_
      rintro _ _ ⟨u11, d11, rfl, rfl⟩
      refine W.cl [] (by kernel_rfl) (p_zneg u9 d9) ?_
      rintro _ _ ⟨u12, d12, rfl, rfl⟩
      exact W.r [] (qv u11 d11 u12 d12) (by kernel_rfl) ⟨_, _, _, _, rfl, rfl⟩ (entQl (n := n) (nb := nb) (d := d) (db := db) (l2 hn0).1.symm (l2 hn0).2.symm (by omega) (by omega) (by omega) (by omega))
    · refine W.df [] 35 (decide (y.sign < 0)) (by kernel_rfl) (by rw [decide_eq_false_iff_not, sign_lt]; exact hn0) ?_
      exact W.r [35] (qv u7 d7 u9 d9) (by kernel_rfl) ⟨_, _, _, _, rfl, rfl⟩ (entQl (n := n) (nb := nb) (d := d) (db := db) (l1 (by omega)).1.symm (l1 (by omega)).2.symm (by omega) (by omega) (by omega) (by omega))
  · have hg1 : g = 1 := by
      have := eq_of_beq (show cmpN g 1 == 0 by simpa using hb)
      rw [cmpZ_nat, cmpZ_eq] at this
      omega
    subst hg1
    simp only [Int.natCast_one, Int.ediv_one, Int.cast_ofNat_Int] at l1 l2
    refine W.cl [16] (by kernel_rfl) (p_zsign d db) ?_
    rintro _ _ ⟨rfl, rfl⟩
    by_cases hn0 : y < 0
    · refine W.dt [] 35 (decide (y.sign < 0)) (by kernel_rfl) (by rw [decide_eq_true_iff, sign_lt]; exact hn0) ?_
      refine W.cl [35] (by kernel_rfl) (p_zneg n nb) ?_
      rintro _ _ ⟨u14, d14, rfl, rfl⟩
      refine W.cl [] (by kernel_rfl) (p_zneg d db) ?_
      rintro _ _ ⟨u15, d15, rfl, rfl⟩
      exact W.r [] (qv u14 d14 u15 d15) (by kernel_rfl) ⟨_, _, _, _, rfl, rfl⟩ (entZQ (by omega) (by omega) (l2 hn0).1.symm (.inl (l2 hn0).2.symm))
    · refine W.df [] 35 (decide (y.sign < 0)) (by kernel_rfl) (by rw [decide_eq_false_iff_not, sign_lt]; exact hn0) ?_
      exact W.r [35] (qv n nb d db) (by kernel_rfl) ⟨_, _, _, _, rfl, rfl⟩ (entZQ (by omega) (by omega) (l1 (by omega)).1.symm (.inl (l1 (by omega)).2.symm))

theorem p_qmake (n : Sl) (nb : Bool) (d : Sl) (db : Bool) {x y : Int} [hn : Has (ZF n nb) (L, x) Γ] [hd : Has (ZF d db) (M, y) Γ] (hy : y ≠ 0) (hL : L ≤ 1000000000 := by omega) (hM : M ≤ 1000000000 := by omega) :
    PCalls tb Tryz.prog 49 [zv n nb, zv d db] Γ (QOk (max L M) (Rat.divInt x y)) := by
  refine PCalls.of_W tbOk Tryz.func49 rfl (by kernel_rfl) ?_
  refine W.cl [] (by kernel_rfl) (p_zsign d db) ?_
  rintro _ _ ⟨rfl, rfl⟩
  refine W.df [] 8 (y.sign == 0) (by kernel_rfl) (by rw [beq_eq_false_iff_ne, ne_eq, sign_zero]; exact hy) ?_
  refine W.cl [8] (by kernel_rfl) (p_qlowest n nb d db hy) ?_
  rintro _ _ ⟨n2, a2, m2, b2, rfl, rfl⟩
  exact W.r [] (.tuple #[qv n2 a2 m2 b2, .int .i64 0]) (by kernel_rfl) ⟨_, _, _, _, rfl, rfl⟩ (entQ (Nat.le_refl _) rfl)
theorem p_qof (a b : Int) (hb : b ≠ 0) (h1 : -9223372036854775808 ≤ a) (h2 : a < 9223372036854775808) (h3 : -9223372036854775808 ≤ b) (h4 : b < 9223372036854775808) :
    PCalls tb Tryz.prog 16 [.int .i64 a, .int .i64 b] Γ (QOk 2 (Rat.divInt a b)) := by
  refine PCalls.of_W tbOk Tryz.func16 rfl (by kernel_rfl) ?_
  refine W.cl [] (by kernel_rfl) (p_zof a h1 h2) ?_
  rintro _ _ ⟨u1, d1, rfl, rfl⟩
  refine W.cl [] (by kernel_rfl) (p_zof b h3 h4) ?_
  rintro _ _ ⟨u2, d2, rfl, rfl⟩
  refine W.cl [] (by kernel_rfl) (p_qmake u1 d1 u2 d2 hb) ?_
  rintro _ _ ⟨n3, a3, m3, b3, rfl, rfl⟩
  exact W.r [] (.tuple #[qv n3 a3 m3 b3, .int .i64 0]) (by kernel_rfl) ⟨_, _, _, _, rfl, rfl⟩ (entQ (by omega) rfl)
theorem p_qwhole (n : Sl) (nb : Bool) {x : Int} [hn : Has (ZF n nb) (L, x) Γ] :
    PCalls tb Tryz.prog 17 [zv n nb] Γ (QPost (max L 2) (x : Rat)) := by
  refine PCalls.of_W tbOk Tryz.func17 rfl (by kernel_rfl) ?_
  refine W.cl [] (by kernel_rfl) (p_zof 1 (by omega) (by omega)) ?_
  rintro _ _ ⟨u1, d1, rfl, rfl⟩
  exact W.r [] (qv n nb u1 d1) (by kernel_rfl) ⟨_, _, _, _, rfl, rfl⟩ (entZQ (by omega) (by omega) rfl (.inl rfl))
theorem p_qnum (n : Sl) (nb : Bool) (d : Sl) (db : Bool) {q : Rat} [hn : Has (QF n nb d db) (L, q) Γ] :
    PCalls tb Tryz.prog 126 [qv n nb d db] Γ (ZPost L q.num) := by
  refine PCalls.of_W tbOk Tryz.func126 rfl (by kernel_rfl) ?_
  refine W.qn n nb d db rfl ?_
  exact W.r [] (zv n nb) (by kernel_rfl) ⟨_, _, rfl, rfl⟩ (entZ (Nat.le_refl _) rfl)
theorem p_qden (n : Sl) (nb : Bool) (d : Sl) (db : Bool) {q : Rat} [hn : Has (QF n nb d db) (L, q) Γ] (hL : L ≤ 1000000000 := by omega) :
    PCalls tb Tryz.prog 75 [qv n nb d db] Γ (ZPost (max L 2) (q.den : Int)) := by
  refine PCalls.of_W tbOk Tryz.func75 rfl (by kernel_rfl) ?_
  refine W.qf n nb d db rfl ?_
  rintro y hy
  refine W.cl [] (by kernel_rfl) (p_zsign d db) ?_
  rintro _ _ ⟨rfl, rfl⟩
  have hp := den_pos' q
  refine W.d [] 6 (y.sign == 0) (by kernel_rfl) (fun hb => ?_) (fun hb => ?_)
  · have h0 := sign_zero.1 (eq_of_beq hb)
    refine W.cl [6] (by kernel_rfl) (p_zof 1 (by omega) (by omega)) ?_
    rintro _ _ ⟨u2, d2, rfl, rfl⟩
    exact W.r [] (zv u2 d2) (by kernel_rfl) ⟨_, _, rfl, rfl⟩ (entZ (by omega) (by omega))
  · have h0 : y ≠ 0 := fun h => (ne_of_beq_false hb) (sign_zero.2 h)
    exact W.r [6] (zv d db) (by kernel_rfl) ⟨_, _, rfl, rfl⟩ (entZ (by omega) (by omega))
theorem p_qsign (n : Sl) (nb : Bool) (d : Sl) (db : Bool) {q : Rat} [hn : Has (QF n nb d db) (L, q) Γ] (hL : L ≤ 1000000000 := by omega) :
    PCalls tb Tryz.prog 129 [qv n nb d db] Γ (IsV (.int .i64 q.num.sign)) := by
  refine PCalls.of_W tbOk Tryz.func129 rfl (by kernel_rfl) ?_
  refine W.qn n nb d db rfl ?_
  refine W.cl [] (by kernel_rfl) (p_zsign n nb) ?_
  rintro _ _ ⟨rfl, rfl⟩
  exact W.r [] (.int .i64 (q.num).sign) (by kernel_rfl) ⟨rfl, rfl⟩ ent0
theorem p_qcmp (n : Sl) (nb : Bool) (d : Sl) (db : Bool) (m : Sl) (mb : Bool) (e : Sl) (eb : Bool) {a b : Rat} [hn : Has (QF n nb d db) (L, a) Γ] [hm : Has (QF m mb e eb) (M, b) Γ] (hL : L ≤ 1000000 := by omega) (hM : M ≤ 1000000 := by omega) :
    PCalls tb Tryz.prog 133 [qv n nb d db, qv m mb e eb] Γ (IsV (.int .i64 (cmpQ a b))) := by
  refine PCalls.of_W tbOk Tryz.func133 rfl (by kernel_rfl) ?_
  refine W.qn n nb d db rfl ?_
  refine W.qn m mb e eb rfl ?_
  refine W.cl [] (by kernel_rfl) (p_qden m mb e eb) ?_
  rintro _ _ ⟨u1, d1, rfl, rfl⟩
  refine W.cl [] (by kernel_rfl) (p_zmul n nb u1 d1) ?_
  rintro _ _ ⟨u2, d2, rfl, rfl⟩
  refine W.cl [] (by kernel_rfl) (p_qden n nb d db) ?_
  rintro _ _ ⟨u3, d3, rfl, rfl⟩
  refine W.cl [] (by kernel_rfl) (p_zmul m mb u3 d3) ?_
  rintro _ _ ⟨u4, d4, rfl, rfl⟩
  refine W.cl [] (by kernel_rfl) (p_zcmp u2 d2 u4 d4) ?_
  rintro _ _ ⟨rfl, rfl⟩
  exact W.r [] (.int .i64 (cmpZ (a.num * (b.den : Int)) (b.num * (a.den : Int)))) (by kernel_rfl) ⟨by rw [cmpQ_parts], rfl⟩ ent0
theorem p_qneg (n : Sl) (nb : Bool) (d : Sl) (db : Bool) {q : Rat} [hn : Has (QF n nb d db) (L, q) Γ] (hL : L ≤ 1000000000 := by omega) :
    PCalls tb Tryz.prog 21 [qv n nb d db] Γ (QPost L (-q)) := by
  refine PCalls.of_W tbOk Tryz.func21 rfl (by kernel_rfl) ?_
  refine W.qf n nb d db rfl ?_
  rintro y hy
  refine W.cl [] (by kernel_rfl) (p_zneg n nb) ?_
  rintro _ _ ⟨u1, d1, rfl, rfl⟩
  exact W.r [] (qv u1 d1 d db) (by kernel_rfl) ⟨_, _, _, _, rfl, rfl⟩ (entZQ (by omega) (by omega) (by rw [Rat.neg_num]) (by rw [Rat.neg_den]; exact hy))
theorem p_qadd (n : Sl) (nb : Bool) (d : Sl) (db : Bool) (m : Sl) (mb : Bool) (e : Sl) (eb : Bool) {a b : Rat} [hn : Has (QF n nb d db) (L, a) Γ] [hm : Has (QF m mb e eb) (M, b) Γ] (hL : L ≤ 1000000 := by omega) (hM : M ≤ 1000000 := by omega) :
    PCalls tb Tryz.prog 96 [qv n nb d db, qv m mb e eb] Γ (QPost (L + M + 5) (a + b)) := by
  refine PCalls.of_W tbOk Tryz.func96 rfl (by kernel_rfl) ?_
  refine W.qn n nb d db rfl ?_
  refine W.qn m mb e eb rfl ?_
  refine W.cl [] (by kernel_rfl) (p_qden m mb e eb) ?_
  rintro _ _ ⟨u1, d1, rfl, rfl⟩
  refine W.cl [] (by kernel_rfl) (p_zmul n nb u1 d1) ?_
  rintro _ _ ⟨u2, d2, rfl, rfl⟩
  refine W.cl [] (by kernel_rfl) (p_qden n nb d db) ?_
  rintro _ _ ⟨u3, d3, rfl, rfl⟩
  refine W.cl [] (by kernel_rfl) (p_zmul m mb u3 d3) ?_
  rintro _ _ ⟨u4, d4, rfl, rfl⟩
  refine W.cl [] (by kernel_rfl) (p_zadd u2 d2 u4 d4) ?_
  rintro _ _ ⟨u5, d5, rfl, rfl⟩
  refine W.cl [] (by kernel_rfl) (p_qden n nb d db) ?_
  rintro _ _ ⟨u6, d6, rfl, rfl⟩
  refine W.cl [] (by kernel_rfl) (p_qden m mb e eb) ?_
  rintro _ _ ⟨u7, d7, rfl, rfl⟩
  refine W.cl [] (by kernel_rfl) (p_zmul u6 d6 u7 d7) ?_
  rintro _ _ ⟨u8, d8, rfl, rfl⟩
  refine W.cl [] (by kernel_rfl) (p_qlowest u5 d5 u8 d8 (Int.mul_ne_zero (by have := den_pos' a; omega) (by have := den_pos' b; omega))) ?_
  rintro _ _ ⟨n9, a9, m9, b9, rfl, rfl⟩
  exact W.r [] (qv n9 a9 m9 b9) (by kernel_rfl) ⟨_, _, _, _, rfl, rfl⟩ (entQ (by omega) (q_add a b))
theorem p_qsub (n : Sl) (nb : Bool) (d : Sl) (db : Bool) (m : Sl) (mb : Bool) (e : Sl) (eb : Bool) {a b : Rat} [hn : Has (QF n nb d db) (L, a) Γ] [hm : Has (QF m mb e eb) (M, b) Γ] (hL : L ≤ 1000000 := by omega) (hM : M ≤ 1000000 := by omega) :
    PCalls tb Tryz.prog 98 [qv n nb d db, qv m mb e eb] Γ (QPost (L + M + 5) (a - b)) := by
  refine PCalls.of_W tbOk Tryz.func98 rfl (by kernel_rfl) ?_
  refine W.cl [] (by kernel_rfl) (p_qneg m mb e eb) ?_
  rintro _ _ ⟨n1, a1, m1, b1, rfl, rfl⟩
  refine W.cl [] (by kernel_rfl) (p_qadd n nb d db n1 a1 m1 b1) ?_
  rintro _ _ ⟨n2, a2, m2, b2, rfl, rfl⟩
  exact W.r [] (qv n2 a2 m2 b2) (by kernel_rfl) ⟨_, _, _, _, rfl, rfl⟩ (entQ (by omega) (Rat.sub_eq_add_neg _ _).symm)
theorem p_qmul (n : Sl) (nb : Bool) (d : Sl) (db : Bool) (m : Sl) (mb : Bool) (e : Sl) (eb : Bool) {a b : Rat} [hn : Has (QF n nb d db) (L, a) Γ] [hm : Has (QF m mb e eb) (M, b) Γ] (hL : L ≤ 1000000 := by omega) (hM : M ≤ 1000000 := by omega) :
    PCalls tb Tryz.prog 61 [qv n nb d db, qv m mb e eb] Γ (QPost (L + M + 5) (a * b)) := by
  refine PCalls.of_W tbOk Tryz.func61 rfl (by kernel_rfl) ?_
  refine W.qn n nb d db rfl ?_
  refine W.qn m mb e eb rfl ?_
  refine W.cl [] (by kernel_rfl) (p_zmul n nb m mb) ?_
  rintro _ _ ⟨u1, d1, rfl, rfl⟩
  refine W.cl [] (by kernel_rfl) (p_qden n nb d db) ?_
  rintro _ _ ⟨u2, d2, rfl, rfl⟩
  refine W.cl [] (by kernel_rfl) (p_qden m mb e eb) ?_
  rintro _ _ ⟨u3, d3, rfl, rfl⟩
  refine W.cl [] (by kernel_rfl) (p_zmul u2 d2 u3 d3) ?_
  rintro _ _ ⟨u4, d4, rfl, rfl⟩
  refine W.cl [] (by kernel_rfl) (p_qlowest u1 d1 u4 d4 (Int.mul_ne_zero (by have := den_pos' a; omega) (by have := den_pos' b; omega))) ?_
  rintro _ _ ⟨n5, a5, m5, b5, rfl, rfl⟩
  exact W.r [] (qv n5 a5 m5 b5) (by kernel_rfl) ⟨_, _, _, _, rfl, rfl⟩ (entQ (by omega) (q_mul a b))
theorem p_qdiv (n : Sl) (nb : Bool) (d : Sl) (db : Bool) (m : Sl) (mb : Bool) (e : Sl) (eb : Bool) {a b : Rat} [hn : Has (QF n nb d db) (L, a) Γ] [hm : Has (QF m mb e eb) (M, b) Γ] (hb : b ≠ 0) (hL : L ≤ 1000000 := by omega) (hM : M ≤ 1000000 := by omega) :
    PCalls tb Tryz.prog 58 [qv n nb d db, qv m mb e eb] Γ (QOk (L + M + 5) (a / b)) := by
  refine PCalls.of_W tbOk Tryz.func58 rfl (by kernel_rfl) ?_
  refine W.qn n nb d db rfl ?_
  refine W.qn m mb e eb rfl ?_
  refine W.cl [] (by kernel_rfl) (p_qden m mb e eb) ?_
  rintro _ _ ⟨u1, d1, rfl, rfl⟩
  refine W.cl [] (by kernel_rfl) (p_zmul n nb u1 d1) ?_
  rintro _ _ ⟨u2, d2, rfl, rfl⟩
  refine W.cl [] (by kernel_rfl) (p_qden n nb d db) ?_
  rintro _ _ ⟨u3, d3, rfl, rfl⟩
  refine W.cl [] (by kernel_rfl) (p_zmul u3 d3 m mb) ?_
  rintro _ _ ⟨u4, d4, rfl, rfl⟩
  refine W.cl [] (by kernel_rfl) (p_qmake u2 d2 u4 d4 (Int.mul_ne_zero (by have := den_pos' a; omega) (fun h => hb (Rat.num_eq_zero.1 h)))) ?_
  rintro _ _ ⟨n5, a5, m5, b5, rfl, rfl⟩
  exact W.r [] (.tuple #[qv n5 a5 m5 b5, .int .i64 0]) (by kernel_rfl) ⟨_, _, _, _, rfl, rfl⟩ (entQ (by omega) (q_div a b))
theorem p_qtext (n : Sl) (nb : Bool) (d : Sl) (db : Bool) {q : Rat} [hn : Has (QF n nb d db) (L, q) Γ] (hL : L ≤ 1000000 := by omega) :
    PCalls tb Tryz.prog 38 [qv n nb d db] Γ (IsV (.string (qtxt q))) := by
  refine PCalls.of_W tbOk Tryz.func38 rfl (by kernel_rfl) ?_
  refine W.qn n nb d db rfl ?_
  refine W.cl [] (by kernel_rfl) (p_qden n nb d db) ?_
  rintro _ _ ⟨u1, d1, rfl, rfl⟩
  refine W.cl [] (by kernel_rfl) (p_zof 1 (by omega) (by omega)) ?_
  rintro _ _ ⟨u2, d2, rfl, rfl⟩
  refine W.cl [] (by kernel_rfl) (p_zcmp u1 d1 u2 d2) ?_
  rintro _ _ ⟨rfl, rfl⟩
  by_cases h1 : q.den = 1
  · refine W.df [] 9 ((cmpZ (q.den : Int) 1) != 0) (by kernel_rfl) (by rw [h1]; rfl) ?_
    refine W.cl [9] (by kernel_rfl) (p_ztext n nb) ?_
    rintro _ _ ⟨rfl, rfl⟩
    exact W.r [] (.string (ztxt q.num)) (by kernel_rfl) ⟨by unfold qtxt; rw [if_pos h1], rfl⟩ ent0
  · have hne : cmpZ (q.den : Int) 1 ≠ 0 := fun h => h1 (by have := cmpZ_eq.1 h; omega)
    refine W.dt [] 9 ((cmpZ (q.den : Int) 1) != 0) (by kernel_rfl) (by simpa using hne) ?_
    refine W.zsz n nb (by kernel_rfl) (fun s1 => ?_)
    refine W.zsz u1 d1 (by kernel_rfl) (fun s2 => ?_)
    refine W.cl [9] (by kernel_rfl) (p_ztext n nb) ?_
    rintro _ _ ⟨rfl, rfl⟩
    refine W.cat [] (ztxt q.num) ⟨#[47]⟩ (by kernel_rfl) (by show _ + 1 ≤ _; omega) ?_
    refine W.cl [] (by kernel_rfl) (p_ztext u1 d1) ?_
    rintro _ _ ⟨rfl, rfl⟩
    refine W.cat [] (ztxt q.num ++ ⟨#[47]⟩) (ztxt q.den) (by kernel_rfl) (by rw [ByteArray.size_append]; show _ + 1 + _ ≤ _; omega) ?_
    exact W.r [] (.string (ztxt q.num ++ ⟨#[47]⟩ ++ ztxt q.den)) (by kernel_rfl) ⟨by unfold qtxt; rw [if_neg h1], rfl⟩ ent0
end

end Go.Proofs.YtaafmafdnnjmdaaGreat

set_option linter.unusedSimpArgs false
set_option linter.unusedVariables false
namespace Go.Proofs.YtaafmafdnnjmdaaGreat
open Go.RowKit Go.IntWalk

/-- A quotient of the reference: any two numbers, the second above 0. -/
def PF (S : Int) (s : Sl) (R : Int) (t : Sl) (a : Nat × Rat) : Fact where
  p I w := ∃ n d : Int, (YF S s (a.1, n)).p I w ∧ (YF R t (a.1, d)).p I w ∧ 0 < d ∧ a.2 = Rat.divInt n d
  up := by
    rintro I I' w w' ⟨n, d, h, h', hd, hq⟩ h1 h2 h3
    exact ⟨n, d, (YF S s _).up h h1 h2 h3, (YF R t _).up h' h1 h2 h3, hd, hq⟩
def PPost (L : Nat) (q : Rat) (v : Value) (Δ : List Fact) : Prop := ∃ (S : Int) (s : Sl) (R : Int) (t : Sl), v = pv S s R t ∧ Δ = [PF S s R t (L, q)]

section
variable {fin : VS → List Fact → Prop} {Γ : List Fact} {L M : Nat}

theorem W.pf {P : Program} {c : Cfg} (S : Int) (s : Sl) (R : Int) (t : Sl) {q : Rat} [h : Has (PF S s R t) (L, q) Γ] (hm : midOps c.k = false)
    (hk : ∀ n d : Int, 0 < d → q = Rat.divInt n d → S = n.sign → W tb P fin c (YF S s (L, n) :: YF R t (L, d) :: Γ)) : W tb P fin c Γ :=
  W.elim (α := Int × Int) (fun y => 0 < y.2 ∧ q = Rat.divInt y.1 y.2 ∧ S = y.1.sign) (fun y => [YF S s (L, y.1), YF R t (L, y.2)]) hm (fun I w _ hh => by
    obtain ⟨n, d, h1, h2, h3, h4⟩ := h.p hh
    exact ⟨(n, d), ⟨h3, h4, h1.2⟩, Holds.cons h1 (holds1 h2)⟩) (fun y hy => hk y.1 y.2 hy.1 hy.2.1 hy.2.2)
theorem entP {S R : Int} {s t : Sl} {L' : Nat} {q q' : Rat} [h : Has (PF S s R t) (L, q) Γ] (hL : L ≤ L') (hq : q = q') : ∀ (I : Blk) (w : World), DataOK tb I w → Holds Γ I w → Holds [PF S s R t (L', q')] I w := fun I w _ hh => by
  subst hq
  obtain ⟨n, d, ⟨⟨h1, h2, h3⟩, h4⟩, ⟨⟨g1, g2, g3⟩, g4⟩, hy⟩ := h.p hh
  exact holds1 ⟨n, d, ⟨⟨h1, h2, Nat.le_trans h3 hL⟩, h4⟩, ⟨⟨g1, g2, Nat.le_trans g3 hL⟩, g4⟩, hy⟩
theorem entYP {S R : Int} {s t : Sl} {L' : Nat} {n d : Int} {q : Rat} [h : Has (YF S s) (L, n) Γ] [h' : Has (YF R t) (M, d) Γ] (hL : L ≤ L') (hM : M ≤ L') (hd : 0 < d) (hq : q = Rat.divInt n d) : ∀ (I : Blk) (w : World), DataOK tb I w → Holds Γ I w → Holds [PF S s R t (L', q)] I w := fun I w _ hh => by
  obtain ⟨⟨h1, h2, h3⟩, h4⟩ := h.p hh
  obtain ⟨⟨g1, g2, g3⟩, g4⟩ := h'.p hh
  exact holds1 ⟨n, d, ⟨⟨h1, h2, Nat.le_trans h3 hL⟩, h4⟩, ⟨⟨g1, g2, Nat.le_trans g3 hM⟩, g4⟩, hd, hq⟩

theorem s_make (S : Int) (s : Sl) (R : Int) (t : Sl) {x y : Int} [hn : Has (YF S s) (L, x) Γ] [hd : Has (YF R t) (M, y) Γ] (hy : y ≠ 0) :
    PCalls tb Tryz.prog 74 [yv S s, yv R t] Γ (PPost (max L M) (Rat.divInt x y)) := by
  refine PCalls.of_W tbOk Tryz.func74 rfl (by kernel_rfl) ?_
  refine W.know (R = y.sign) rfl (fun I w _ hh => (hd.p hh).2) (fun hR => ?_)
  by_cases h0 : y < 0
  · refine W.dt [] 7 (decide (R < 0)) (by kernel_rfl) (by rw [decide_eq_true_iff, hR, sign_lt]; exact h0) ?_
    refine W.cl [7] (by kernel_rfl) (p_yneg S s) ?_
    rintro _ _ ⟨S1, t1, rfl, rfl⟩
    refine W.cl [] (by kernel_rfl) (p_yneg R t) ?_
    rintro _ _ ⟨S2, t2, rfl, rfl⟩
    exact W.r [] (pv S1 t1 S2 t2) (by kernel_rfl) ⟨_, _, _, _, rfl, rfl⟩ (entYP (by omega) (by omega) (by omega) (by rw [Rat.divInt_eq_divInt_iff hy (by omega)]; grind))
  · refine W.df [] 7 (decide (R < 0)) (by kernel_rfl) (by rw [decide_eq_false_iff_not, hR, sign_lt]; exact h0) ?_
    exact W.r [7] (pv S s R t) (by kernel_rfl) ⟨_, _, _, _, rfl, rfl⟩ (entYP (by omega) (by omega) (by omega) rfl)
theorem s_of (a : Int) (h1 : -9223372036854775808 ≤ a) (h2 : a < 9223372036854775808) :
    PCalls tb Tryz.prog 26 [.int .i64 a] Γ (PPost 6 (a : Rat)) := by
  refine PCalls.of_W tbOk Tryz.func26 rfl (by kernel_rfl) ?_
  refine W.cl [] (by kernel_rfl) (p_yof a h1 h2) ?_
  rintro _ _ ⟨S1, t1, rfl, rfl⟩
  refine W.cl [] (by kernel_rfl) (p_yof 1 (by omega) (by omega)) ?_
  rintro _ _ ⟨S2, t2, rfl, rfl⟩
  exact W.r [] (pv S1 t1 S2 t2) (by kernel_rfl) ⟨_, _, _, _, rfl, rfl⟩ (entYP (by omega) (by omega) (by omega) (q_divInt1 a).symm)

theorem s_neg (S : Int) (s : Sl) (R : Int) (t : Sl) {q : Rat} [h : Has (PF S s R t) (L, q) Γ] :
    PCalls tb Tryz.prog 29 [pv S s R t] Γ (PPost L (-q)) := by
  refine PCalls.of_W tbOk Tryz.func29 rfl (by kernel_rfl) ?_
  refine W.pf S s R t rfl ?_
  intro n d hd hq _
  refine W.cl [] (by kernel_rfl) (p_yneg S s) ?_
  rintro _ _ ⟨S1, t1, rfl, rfl⟩
  exact W.r [] (pv S1 t1 R t) (by kernel_rfl) ⟨_, _, _, _, rfl, rfl⟩ (entYP (by omega) (by omega) hd (by rw [hq, Rat.neg_divInt]))
theorem s_add (S : Int) (s : Sl) (R : Int) (t : Sl) (S' : Int) (s' : Sl) (R' : Int) (t' : Sl) {a b : Rat} [h : Has (PF S s R t) (L, a) Γ] [h' : Has (PF S' s' R' t') (M, b) Γ] (hL : L ≤ 100000000 := by omega) (hM : M ≤ 100000000 := by omega) :
    PCalls tb Tryz.prog 77 [pv S s R t, pv S' s' R' t'] Γ (PPost (L + M + 1) (a + b)) := by
  refine PCalls.of_W tbOk Tryz.func77 rfl (by kernel_rfl) ?_
  refine W.pf S s R t rfl ?_
  intro n d hd hq _
  refine W.pf S' s' R' t' rfl ?_
  intro m e he hq' _
  refine W.cl [] (by kernel_rfl) (p_ycmp R t R' t') ?_
  rintro _ _ ⟨rfl, rfl⟩
  have hsum : a + b = Rat.divInt (n * e + m * d) (d * e) := by rw [hq, hq', Rat.divInt_add_divInt _ _ (by omega) (by omega)]
  by_cases hde : d = e
  · subst hde
    refine W.dt [] 10 ((cmpZ d d) == 0) (by kernel_rfl) (by rw [beq_iff_eq, cmpZ_eq]) ?_
    refine W.cl [10] (by kernel_rfl) (p_yadd S s S' s') ?_
    rintro _ _ ⟨S2, t2, rfl, rfl⟩
    exact W.r [] (pv S2 t2 R t) (by kernel_rfl) ⟨_, _, _, _, rfl, rfl⟩ (entYP (by omega) (by omega) hd (by rw [hsum, Rat.divInt_eq_divInt_iff (Int.mul_ne_zero (by omega) (by omega)) (by omega)]; grind))
  · refine W.df [] 10 ((cmpZ d e) == 0) (by kernel_rfl) (by rw [beq_eq_false_iff_ne, ne_eq, cmpZ_eq]; exact hde) ?_
    refine W.cl [10] (by kernel_rfl) (p_ymul S s R' t') ?_
    rintro _ _ ⟨S3, t3, rfl, rfl⟩
    refine W.cl [] (by kernel_rfl) (p_ymul S' s' R t) ?_
    rintro _ _ ⟨S4, t4, rfl, rfl⟩
    refine W.cl [] (by kernel_rfl) (p_yadd S3 t3 S4 t4) ?_
    rintro _ _ ⟨S5, t5, rfl, rfl⟩
    refine W.cl [] (by kernel_rfl) (p_ymul R t R' t') ?_
    rintro _ _ ⟨S6, t6, rfl, rfl⟩
    exact W.r [] (pv S5 t5 S6 t6) (by kernel_rfl) ⟨_, _, _, _, rfl, rfl⟩ (entYP (by omega) (by omega) (Int.mul_pos hd he) hsum)
theorem s_sub (S : Int) (s : Sl) (R : Int) (t : Sl) (S' : Int) (s' : Sl) (R' : Int) (t' : Sl) {a b : Rat} [h : Has (PF S s R t) (L, a) Γ] [h' : Has (PF S' s' R' t') (M, b) Γ] (hL : L ≤ 100000000 := by omega) (hM : M ≤ 100000000 := by omega) :
    PCalls tb Tryz.prog 40 [pv S s R t, pv S' s' R' t'] Γ (PPost (L + M + 1) (a - b)) := by
  refine PCalls.of_W tbOk Tryz.func40 rfl (by kernel_rfl) ?_
  refine W.cl [] (by kernel_rfl) (s_neg S' s' R' t') ?_
  rintro _ _ ⟨S1, s1, R1, t1, rfl, rfl⟩
  refine W.cl [] (by kernel_rfl) (s_add S s R t S1 s1 R1 t1) ?_
  rintro _ _ ⟨S2, s2, R2, t2, rfl, rfl⟩
  exact W.r [] (pv S2 s2 R2 t2) (by kernel_rfl) ⟨_, _, _, _, rfl, rfl⟩ (entP (by omega) (Rat.sub_eq_add_neg _ _).symm)
theorem s_mul (S : Int) (s : Sl) (R : Int) (t : Sl) (S' : Int) (s' : Sl) (R' : Int) (t' : Sl) {a b : Rat} [h : Has (PF S s R t) (L, a) Γ] [h' : Has (PF S' s' R' t') (M, b) Γ] (hL : L ≤ 100000000 := by omega) (hM : M ≤ 100000000 := by omega) :
    PCalls tb Tryz.prog 80 [pv S s R t, pv S' s' R' t'] Γ (PPost (L + M) (a * b)) := by
  refine PCalls.of_W tbOk Tryz.func80 rfl (by kernel_rfl) ?_
  refine W.pf S s R t rfl ?_
  intro n d hd hq _
  refine W.pf S' s' R' t' rfl ?_
  intro m e he hq' _
  refine W.cl [] (by kernel_rfl) (p_ymul S s S' s') ?_
  rintro _ _ ⟨S1, t1, rfl, rfl⟩
  refine W.cl [] (by kernel_rfl) (p_ymul R t R' t') ?_
  rintro _ _ ⟨S2, t2, rfl, rfl⟩
  exact W.r [] (pv S1 t1 S2 t2) (by kernel_rfl) ⟨_, _, _, _, rfl, rfl⟩ (entYP (by omega) (by omega) (Int.mul_pos hd he) (by rw [hq, hq', Rat.divInt_mul_divInt]))
theorem s_div (S : Int) (s : Sl) (R : Int) (t : Sl) (S' : Int) (s' : Sl) (R' : Int) (t' : Sl) {a b : Rat} [h : Has (PF S s R t) (L, a) Γ] [h' : Has (PF S' s' R' t') (M, b) Γ] (hb : b ≠ 0) (hL : L ≤ 100000000 := by omega) (hM : M ≤ 100000000 := by omega) :
    PCalls tb Tryz.prog 108 [pv S s R t, pv S' s' R' t'] Γ (PPost (L + M) (a / b)) := by
  refine PCalls.of_W tbOk Tryz.func108 rfl (by kernel_rfl) ?_
  refine W.pf S s R t rfl ?_
  intro n d hd hq _
  refine W.pf S' s' R' t' rfl ?_
  intro m e he hq' _
  have hm : m ≠ 0 := by
    rintro rfl
    exact hb (by rw [hq', Rat.zero_divInt])
  refine W.cl [] (by kernel_rfl) (p_ymul S s R' t') ?_
  rintro _ _ ⟨S1, t1, rfl, rfl⟩
  refine W.cl [] (by kernel_rfl) (p_ymul R t S' s') ?_
  rintro _ _ ⟨S2, t2, rfl, rfl⟩
  refine W.cl [] (by kernel_rfl) (s_make S1 t1 S2 t2 (Int.mul_ne_zero (by omega) hm)) ?_
  rintro _ _ ⟨S3, s3, R3, t3, rfl, rfl⟩
  exact W.r [] (pv S3 s3 R3 t3) (by kernel_rfl) ⟨_, _, _, _, rfl, rfl⟩ (entP (by omega) (by rw [Rat.div_def, hq, hq', Rat.inv_divInt, Rat.divInt_mul_divInt]))
end

end Go.Proofs.YtaafmafdnnjmdaaGreat

set_option linter.unusedSimpArgs false
set_option linter.unusedVariables false
namespace Go.Proofs.YtaafmafdnnjmdaaGreat
open Go.RowKit Go.IntWalk

theorem ib_cons (b : UInt8) (l : List UInt8) (c : UInt8) : Lib.indexByte (b :: l) c = if b == c then 0 else if Lib.indexByte l c == -1 then -1 else Lib.indexByte l c + 1 := by rw [Lib.indexByte]
theorem indexByte_list : ∀ l : List UInt8, Lib.indexByte l 47 = if (l.map fun b => b.toNat).findIdx (· == 47) < l.length then (((l.map fun b => b.toNat).findIdx (· == 47) : Nat) : Int) else -1
  | [] => rfl
  | b :: l => by
    have ih := indexByte_list l
    rw [List.map_cons, List.findIdx_cons, List.length_cons, ib_cons]
    by_cases hb : b = 47
    · subst hb
      simp
    · have h1 : (b == 47) = false := beq_eq_false_iff_ne.2 hb
      have h2 : (b.toNat == 47) = false := beq_eq_false_iff_ne.2 (fun h => hb (UInt8.toNat_inj.1 h))
      rw [h1, h2, ih]
      simp only [Bool.false_eq_true, if_false, cond_false, Nat.add_lt_add_iff_right]
      by_cases h3 : (l.map fun b => b.toNat).findIdx (· == 47) < l.length
      · simp only [h3, if_true]
        rw [beq_eq_false_iff_ne.2 (by omega)]
        simp
      · simp only [h3, if_false]
        rfl
theorem indexByte_sidx (s : ByteArray) : Lib.indexByte s.data.toList 47 = if sidx s < s.size then (sidx s : Int) else -1 := by
  rw [indexByte_list]
  rfl

/-- The first stroke from a place on. -/
def sat (s : ByteArray) (j : Nat) : Int := if Lib.indexByte (s.data.toList.drop j) 47 = -1 then -1 else Lib.indexByte (s.data.toList.drop j) 47 + j
theorem sat_end (s : ByteArray) : sat s s.size = -1 := by
  unfold sat
  rw [List.drop_of_length_le (by show s.data.toList.length ≤ s.data.size; simp)]
  rfl
theorem sat_step {s : ByteArray} {j : Nat} (h : j < s.size) : sat s j = if (((s[j]'h).toNat : Nat) : Int) = 47 then (j : Int) else sat s (j + 1) := by
  have hl : j < s.data.toList.length := by simpa using h
  have e : s.data.toList.drop j = s[j] :: s.data.toList.drop (j + 1) := by
    rw [List.drop_eq_getElem_cons hl]
    rfl
  unfold sat
  rw [e]
  have hge := Lib.indexByte_ge (s.data.toList.drop (j + 1)) 47
  generalize s.data.toList.drop (j + 1) = l at *
  show (if Lib.indexByte (s[j] :: l) 47 = -1 then (-1 : Int) else Lib.indexByte (s[j] :: l) 47 + j) = _
  rw [ib_cons]
  by_cases hb : s[j] = 47
  · have h2 : (((s[j]'h).toNat : Nat) : Int) = 47 := by rw [hb]; rfl
    rw [if_pos h2, hb]
    simp
  · have h1 : (s[j] == 47) = false := beq_eq_false_iff_ne.2 hb
    have h2 : ¬ (((s[j]'h).toNat : Nat) : Int) = 47 := fun h => hb (UInt8.toNat_inj.1 (by show _ = 47; omega))
    rw [if_neg h2, h1]
    simp only [Bool.false_eq_true, if_false]
    by_cases h3 : Lib.indexByte l 47 = -1
    · rw [h3]; simp
    · rw [beq_eq_false_iff_ne.2 h3]
      simp only [Bool.false_eq_true, if_false, h3]
      rw [if_neg (by omega)]
      omega
theorem sat_zero (s : ByteArray) : sat s 0 = if sidx s < s.size then (sidx s : Int) else -1 := by
  unfold sat
  rw [List.drop_zero, indexByte_sidx]
  split
  · rw [if_neg (by omega)]; omega
  · rfl

theorem over_size (s : ByteArray) : (over s).size ≤ s.size := by unfold over; rw [ByteArray.size_extract]; omega
theorem under_size (s : ByteArray) : (under s).size ≤ s.size := by unfold under; rw [ByteArray.size_extract]; omega

section
variable {fin : VS → List Fact → Prop} {Γ : List Fact} {L M : Nat}

def PPar (s : ByteArray) (v : Value) (Δ : List Fact) : Prop := ∃ (S : Int) (n : Sl) (R : Int) (t : Sl), v = .tuple #[pv S n R t, .int .i64 (qerr s)] ∧ Δ = [PF S n R t (max 6 (min s.size 4096), qval s)]
set_option maxHeartbeats 1000000 in
theorem s_parse (s : ByteArray) (hs : s.size ≤ 9223372036854775807) : PCalls tb Tryz.prog 37 [.string s] Γ (PPar s) := by
  have hos := over_size s
  have hus := under_size s
  refine PCalls.of_W tbOk Tryz.func37 rfl (by kernel_rfl) ?_
  refine W.lp [] [4, 5] (fun a : Int × Int × Nat => [(4, .int .i64 a.1), (5, .int .i64 a.2.1)]) (fun _ => []) (fun _ => []) (fun a => a.1 = sat s a.2.2 ∧ a.2.1 = (a.2.2 : Int) - 1 ∧ a.2.2 ≤ s.size) (fun a => a.2.2) (-1, IntKind.i64.wrap ((s.size : Int) - 1), s.size) (by kernel_rfl) (by kernel_rfl) ⟨(sat_end s).symm, i64_in _ (by omega), Nat.le_refl _⟩ ent0 ?_
  rintro ⟨a1, a2, j⟩ R ⟨h1, h2, h3⟩ close
  simp only at h1 h2 h3
  subst h1
  subst h2
  by_cases hj : 0 < j
  · obtain ⟨k, rfl⟩ : ∃ k, j = k + 1 := ⟨j - 1, by omega⟩
    refine W.dt [] 14 (decide (((k + 1 : Nat) : Int) - 1 ≥ 0)) (by kernel_rfl) (by rw [decide_eq_true_iff]; omega) ?_
    refine W.idx [14] s .i64 k (((k + 1 : Nat) : Int) - 1) (by omega) tbOk (by kernel_rfl) (by omega) ?_
    have hst := sat_step (s := s) (j := k) (by omega)
    refine W.d [] 20 ((((s[k]'(by omega)).toNat : Nat) : Int) == 47) (by kernel_rfl) (fun hb => ?_) (fun hb => ?_)
    · have hb := eq_of_beq hb
      refine close [20] _ _ (((k + 1 : Nat) : Int) - 1, IntKind.i64.wrap (((k + 1 : Nat) : Int) - 1 - 1), k) (by kernel_rfl) (by kernel_rfl) ⟨by rw [hst, if_pos hb]; simp only; omega, by simp only; rw [i64_in _ (by omega)]; omega, by simp only; omega⟩ (by simp only; omega) ent0
    · have hb := ne_of_beq_false hb
      refine close [20] _ _ (sat s (k + 1), IntKind.i64.wrap (((k + 1 : Nat) : Int) - 1 - 1), k) (by kernel_rfl) (by kernel_rfl) ⟨by rw [hst, if_neg hb], by simp only; rw [i64_in _ (by omega)]; omega, by simp only; omega⟩ (by simp only; omega) ent0
  · obtain rfl : j = 0 := by omega
    refine W.df [] 14 (decide (((0 : Nat) : Int) - 1 ≥ 0)) (by kernel_rfl) rfl ?_
    rw [sat_zero]
    by_cases h : sidx s < s.size
    · rw [if_pos h]
      refine W.dt [14] 24 (decide ((sidx s : Int) ≥ 0)) (by kernel_rfl) (by rw [decide_eq_true_iff]; omega) ?_
      refine W.sub' [24] s none (some (.int .i64 (sidx s : Int))) 0 (sidx s) tbOk (by kernel_rfl) (.inr ⟨rfl, rfl⟩) (.inl rfl) (by omega) (by omega) ?_
      refine W.cl [] (by kernel_rfl) (p_yparse (over s) (by omega)) ?_
      rintro _ _ ⟨S4, u4, rfl, rfl⟩
      by_cases he : zerr (over s) = 0
      · rw [he]
        refine W.df [] 34 ((0 : Int) != 0) (by kernel_rfl) rfl ?_
        refine W.df [34] 38 (decide ((sidx s : Int) < 0)) (by kernel_rfl) (by rw [decide_eq_false_iff_not]; omega) ?_
        refine W.sub' [38] s (some (.int .i64 (IntKind.i64.wrap ((sidx s : Int) + 1)))) none (sidx s + 1) s.size tbOk (by kernel_rfl) (.inl ?_) (.inr ⟨rfl, rfl⟩) (by omega) (by omega) ?_
        · rw [i64_in _ (by omega)]
          rfl
        refine W.cl [] (by kernel_rfl) (r_parse (under s) (by omega)) ?_
        rintro _ _ ⟨v, rfl, rfl⟩
        by_cases hp : perr (under s) = 0
        · rw [hp]
          refine W.df [] 51 ((0 : Int) != 0) (by kernel_rfl) rfl ?_
          refine W.rz v (by kernel_rfl) (fun hv => ?_)
          by_cases hz : pval (under s) = 0
          · have e1 : qerr s = 5 := by unfold qerr; rw [if_neg (by rw [he]; decide), if_pos h, if_neg (by rw [hp]; decide), if_pos hz]
            have e2 : qval s = 0 := by unfold qval; rw [e1, if_pos (by decide)]
            refine W.dt [51] 57 (((v.n : Nat) : Int) == 0) (by kernel_rfl) (by rw [hv.1 hz]; rfl) ?_
            refine W.cl [57] (by kernel_rfl) (s_of 0 (by omega) (by omega)) ?_
            rintro _ _ ⟨S11, s11, R11, t11, rfl, rfl⟩
            exact W.r [] (.tuple #[pv S11 s11 R11 t11, .int .i64 5]) (by kernel_rfl) ⟨S11, s11, R11, t11, by rw [e1], rfl⟩ (entP (by omega) (by rw [e2]; rfl))
          · have e1 : qerr s = 0 := by unfold qerr; rw [if_neg (by rw [he]; decide), if_pos h, if_neg (by rw [hp]; decide), if_neg hz]
            have e2 : qval s = Rat.divInt (zval (over s)) (pval (under s)) := by unfold qval; rw [e1, if_neg (by decide), if_pos h]
            refine W.df [51] 57 (((v.n : Nat) : Int) == 0) (by kernel_rfl) (by rw [beq_eq_false_iff_ne]; intro h0; exact hz (hv.2 (by omega))) ?_
            refine W.cl [57] (by kernel_rfl) (p_ymade 1 (pval (under s) : Int) v ⟨by omega, fun _ => (Int.sign_eq_one_of_pos (by omega)).symm⟩) ?_
            rintro _ _ ⟨S12, u12, rfl, rfl⟩
            refine W.cl [] (by kernel_rfl) (s_make S4 u4 S12 u12 (by omega)) ?_
            rintro _ _ ⟨S13, s13, R13, t13, rfl, rfl⟩
            exact W.r [] (.tuple #[pv S13 s13 R13 t13, .int .i64 0]) (by kernel_rfl) ⟨S13, s13, R13, t13, by rw [e1], rfl⟩ (entP (by omega) e2.symm)
        · have e1 : qerr s = perr (under s) := by unfold qerr; rw [if_neg (by rw [he]; decide), if_pos h, if_pos hp]
          have e2 : qval s = 0 := by unfold qval; rw [e1, if_pos hp]
          refine W.dt [] 51 (perr (under s) != 0) (by kernel_rfl) (by simpa using hp) ?_
          refine W.cl [51] (by kernel_rfl) (s_of 0 (by omega) (by omega)) ?_
          rintro _ _ ⟨S10, s10, R10, t10, rfl, rfl⟩
          exact W.r [] (.tuple #[pv S10 s10 R10 t10, .int .i64 (perr (under s))]) (by kernel_rfl) ⟨S10, s10, R10, t10, by rw [e1], rfl⟩ (entP (by omega) (by rw [e2]; rfl))
      · have e1 : qerr s = zerr (over s) := by unfold qerr; rw [if_pos he]
        have e2 : qval s = 0 := by unfold qval; rw [e1, if_pos he]
        refine W.dt [] 34 (zerr (over s) != 0) (by kernel_rfl) (by simpa using he) ?_
        refine W.cl [34] (by kernel_rfl) (s_of 0 (by omega) (by omega)) ?_
        rintro _ _ ⟨S5, s5, R5, t5, rfl, rfl⟩
        exact W.r [] (.tuple #[pv S5 s5 R5 t5, .int .i64 (zerr (over s))]) (by kernel_rfl) ⟨S5, s5, R5, t5, by rw [e1], rfl⟩ (entP (by omega) (by rw [e2]; rfl))
    · rw [if_neg h]
      refine W.df [14] 24 (decide ((-1 : Int) ≥ 0)) (by kernel_rfl) rfl ?_
      refine W.cl [24] (by kernel_rfl) (p_yparse s hs) ?_
      rintro _ _ ⟨S14, u14, rfl, rfl⟩
      have ho := over_all h
      by_cases he : zerr s = 0
      · have e1 : qerr s = 0 := by unfold qerr; rw [ho, if_neg (by rw [he]; decide), if_neg h]
        have e2 : qval s = (zval s : Rat) := by unfold qval; rw [e1, ho, if_neg (by decide), if_neg h]
        rw [he]
        refine W.df [] 34 ((0 : Int) != 0) (by kernel_rfl) rfl ?_
        refine W.dt [34] 38 (decide ((-1 : Int) < 0)) (by kernel_rfl) rfl ?_
        refine W.cl [38] (by kernel_rfl) (p_yof 1 (by omega) (by omega)) ?_
        rintro _ _ ⟨S16, t16, rfl, rfl⟩
        refine W.cl [] (by kernel_rfl) (s_make S14 u14 S16 t16 (by omega)) ?_
        rintro _ _ ⟨S17, s17, R17, t17, rfl, rfl⟩
        exact W.r [] (.tuple #[pv S17 s17 R17 t17, .int .i64 0]) (by kernel_rfl) ⟨S17, s17, R17, t17, by rw [e1], rfl⟩ (entP (by omega) (by rw [e2, q_divInt1]))
      · have e1 : qerr s = zerr s := by unfold qerr; rw [ho, if_pos he]
        have e2 : qval s = 0 := by unfold qval; rw [e1, if_pos he]
        refine W.dt [] 34 (zerr s != 0) (by kernel_rfl) (by simpa using he) ?_
        refine W.cl [34] (by kernel_rfl) (s_of 0 (by omega) (by omega)) ?_
        rintro _ _ ⟨S15, s15, R15, t15, rfl, rfl⟩
        exact W.r [] (.tuple #[pv S15 s15 R15 t15, .int .i64 (zerr s)]) (by kernel_rfl) ⟨S15, s15, R15, t15, by rw [e1], rfl⟩ (entP (by omega) (by rw [e2]; rfl))
end

end Go.Proofs.YtaafmafdnnjmdaaGreat

set_option linter.unusedSimpArgs false
set_option linter.unusedVariables false
namespace Go.Proofs.YtaafmafdnnjmdaaGreat
open Go.RowKit Go.IntWalk

section
variable {fin : VS → List Fact → Prop} {Γ : List Fact} {L M : Nat}

end

end Go.Proofs.YtaafmafdnnjmdaaGreat

set_option linter.unusedSimpArgs false
set_option linter.unusedVariables false
namespace Go.Proofs.YtaafmafdnnjmdaaGreat
open Go.RowKit Go.IntWalk

/-- Quotients in rows. -/
structure QE where
  n : Sl
  nb : Bool
  d : Sl
  db : Bool
  q : Rat
def QR : Rowed QE where
  z := 4
  cells e := [.slice e.n.ao e.n.n e.n.c, .bool e.nb, .slice e.d.ao e.d.n e.d.c, .bool e.db]
  len _ := rfl
  fact L e := QF e.n e.nb e.d e.db (L, e.q)

section
variable {Γ : List Fact} {L M : Nat}
end

end Go.Proofs.YtaafmafdnnjmdaaGreat
