
/- Numbers as eight bytes: the contract of the reference's Encode. -/
import Derived.Test.YthjhcddkdplegaaRm
set_option linter.unusedSimpArgs false
set_option linter.unusedVariables false
namespace Go.Proofs.Ythjhcddkdplegaa
open Go.RowKit Go.IntWalk

theorem qabs_gt {q : Rat} (h : q ≠ 0) : 0 < qabs q := by
  unfold qabs
  split <;> grind
/-- What the reference's search has seen. -/
def EncR (s : Rat) (e : Nat) : Prop := ∀ e', e' < e → (M s e').den ≠ 1 ∨ ((72057594037927936 : Nat) : Int) ≤ M s e'
theorem EncR.succ {s : Rat} {e : Nat} (h : EncR s e) (h1 : (M s e).den ≠ 1 ∨ ((72057594037927936 : Nat) : Int) ≤ M s e) : EncR s (e + 1) := fun e' he' => by
  rcases Nat.lt_or_ge e' e with hl | hl
  · exact h e' hl
  · obtain rfl : e' = e := by omega
    exact h1
theorem M_back (s : Rat) {e e' : Nat} (h : e' ≤ e) : M s e' = M s e * (((2 ^ (4 * (e - e')) : Nat) : Int) : Rat) := by
  unfold M
  rw [← pw_nat, Rat.mul_assoc, ← pw_add]
  rw [show 4 * (78 - (e' : Int)) = 4 * (78 - (e : Int)) + ((4 * (e - e') : Nat) : Int) by omega]
theorem EncR.first {s : Rat} {e Q : Nat} (h : EncR s e) (hs : 0 < s) (hM : M s e = ((Q : Int) : Rat)) : EncE s e := fun e' he' => by
  rcases h e' he' with h1 | h1
  · refine absurd ?_ h1
    rw [M_back s (Nat.le_of_lt he'), hM, ← Rat.intCast_mul]
    rfl
  · exact h1
theorem least_enc (s : Rat) : ∀ k : Nat, k ≤ 128 → (∃ e, e < k ∧ EncE s e ∧ M s e < ((72057594037927936 : Nat) : Int)) ∨ EncE s k
  | 0, _ => .inr fun e' he' => absurd he' (by omega)
  | k + 1, hk => by
    rcases least_enc s k (by omega) with ⟨e, h1, h2, h3⟩ | h
    · exact .inl ⟨e, by omega, h2, h3⟩
    · by_cases hm : M s k < ((72057594037927936 : Nat) : Int)
      · exact .inl ⟨k, by omega, h, hm⟩
      · refine .inr fun e' he' => ?_
        rcases Nat.lt_or_ge e' k with hl | hl
        · exact h e' hl
        · obtain rfl : e' = k := by omega
          exact Rat.not_lt.1 hm
theorem enc_none {q : Rat} (hq : q ≠ 0) (h : EncR (qabs q) 128) : Enc q none := by
  refine .inr ⟨hq, ?_⟩
  rcases least_enc (qabs q) 128 (Nat.le_refl _) with ⟨e, h1, h2, h3⟩ | h0
  · refine ⟨e, h2, .inr ⟨h1, h3, .inl ⟨?_, rfl⟩⟩⟩
    rcases h e h1 with g | g
    · exact g
    · exact absurd h3 (Rat.not_lt.2 g)
  · exact ⟨128, h0, .inl ⟨rfl, rfl⟩⟩
theorem M_of {q : Rat} {e : Nat} {n d : Int} (h : q * pw (4 * (78 - (e : Int))) = Rat.divInt n d) (hd : 0 < d) : M (qabs q) e = Rat.divInt (n.natAbs : Int) d := by
  have hp := pw_pos (4 * (78 - (e : Int)))
  unfold M
  rw [Rat.divInt_eq_div] at h ⊢
  have hd' : (0 : Rat) < (d : Rat) := by
    rw [show (0 : Rat) = ((0 : Int) : Rat) from rfl, Rat.intCast_lt_intCast]
    exact hd
  have hn : q * pw (4 * (78 - (e : Int))) * (d : Rat) = (n : Rat) := by rw [h, Rat.div_mul_cancel (by grind)]
  have hpd : 0 < pw (4 * (78 - (e : Int))) * (d : Rat) := Rat.mul_pos hp hd'
  have key : qabs q * pw (4 * (78 - (e : Int))) * (d : Rat) = ((n.natAbs : Int) : Rat) := by
    unfold qabs
    split
    · rename_i hq
      have : n ≤ 0 := by
        rw [← Rat.intCast_le_intCast, ← hn]
        have h0 : 0 ≤ (-q) * (pw (4 * (78 - (e : Int))) * (d : Rat)) := Rat.mul_nonneg (by grind) (Rat.le_of_lt hpd)
        show _ ≤ (0 : Rat)
        grind
      rw [show (n.natAbs : Int) = -n by omega, Rat.intCast_neg, ← hn]
      grind
    · rename_i hq
      have : 0 ≤ n := by
        rw [← Rat.intCast_le_intCast, ← hn]
        have h0 : 0 ≤ q * (pw (4 * (78 - (e : Int))) * (d : Rat)) := Rat.mul_nonneg (by grind) (Rat.le_of_lt hpd)
        show (0 : Rat) ≤ _
        grind
      rw [show (n.natAbs : Int) = n by omega, ← hn]
  rw [← key, Rat.mul_div_cancel (by grind)]
theorem den_ne {x : Rat} {n d : Int} (h : x = Rat.divInt (n.natAbs : Int) d) (hd : 0 < d) (hr : n.natAbs % d.natAbs ≠ 0) : x.den ≠ 1 := fun h1 => by
  have hx : x = ((x.num : Int) : Rat) := (Rat.ext (by simp) (by simpa using h1))
  obtain ⟨g, hg, e1, e2⟩ := parts_of hd h
  rw [h1] at e2
  refine hr ?_
  have h3 : (n.natAbs : Int) = x.num * d := by rw [e1, e2]; simp
  have h4 : (n.natAbs : Int) % d = 0 := by rw [h3]; exact Int.mul_emod_left _ _
  have hc : ((n.natAbs % d.natAbs : Nat) : Int) = (n.natAbs : Int) % d := by rw [Int.natCast_emod, show ((d.natAbs : Nat) : Int) = d by omega]
  omega
theorem M_whole {x : Rat} {n d : Int} (h : x = Rat.divInt (n.natAbs : Int) d) (hd : 0 < d) (hr : n.natAbs % d.natAbs = 0) : x = (((n.natAbs / d.natAbs : Nat) : Int) : Rat) := by
  rw [h, ← q_divInt1]
  have hdn : ((d.natAbs : Nat) : Int) = d := by omega
  have he : n.natAbs = n.natAbs / d.natAbs * d.natAbs := by
    have := Nat.div_add_mod n.natAbs d.natAbs
    rw [hr, Nat.mul_comm] at this
    omega
  generalize n.natAbs / d.natAbs = Q at *
  refine eq_of_cross (by omega) ?_
  rw [q_divInt1, he]
  simp [hdn]
theorem cmpN_ge' {a b : Nat} (h : cmpN a b ≥ 0) : b ≤ a := by
  unfold cmpN at h
  split at h
  · omega
  · omega
theorem cmpN_lt' {a b : Nat} (h : ¬ cmpN a b ≥ 0) : a < b := by
  unfold cmpN at h
  split at h
  · assumption
  · split at h <;> omega

/-- The row of bytes as it is filled from behind. -/
def rowF (h : Value) (n i : Nat) : List Value := h :: (List.range 7).map fun j => .int .u8 (if i < j + 1 then ((n / 256 ^ (6 - j) % 256 : Nat) : Int) else 0)
theorem u8_small (x : Nat) : IntKind.u8.wrap ((x % 256 : Nat) : Int) = ((x % 256 : Nat) : Int) := by
  rw [IntKind.wrap_u8]
  omega
theorem seven {p : Nat → Prop} (h1 : p 1) (h2 : p 2) (h3 : p 3) (h4 : p 4) (h5 : p 5) (h6 : p 6) (h7 : p 7) (i : Nat) (hi : 1 ≤ i) (hj : i ≤ 7) : p i := by
  match i, hi, hj with
  | 1, _, _ => exact h1
  | 2, _, _ => exact h2
  | 3, _, _ => exact h3
  | 4, _, _ => exact h4
  | 5, _, _ => exact h5
  | 6, _, _ => exact h6
  | 7, _, _ => exact h7
theorem rowF_step (h : Value) (n i : Nat) (hi : 1 ≤ i) (hj : i ≤ 7) :
    (rowF h n i).take (0 + i * 1) ++ [.int .u8 (IntKind.u8.wrap ((n / 256 ^ (7 - i) % 256 : Nat) : Int))] ++ (rowF h n i).drop (0 + i * 1 + 1) = rowF h n (i - 1) := by
  rw [u8_small]
  revert hi hj
  exact seven (p := fun i => (rowF h n i).take (0 + i * 1) ++ [.int .u8 ((n / 256 ^ (7 - i) % 256 : Nat) : Int)] ++ (rowF h n i).drop (0 + i * 1 + 1) = rowF h n (i - 1)) rfl rfl rfl rfl rfl rfl rfl i
theorem rowF_zero (h : Value) (n i : Nat) (hi : 1 ≤ i) (hj : i ≤ 7) (h0 : n / 256 ^ (7 - i) % 256 = 0) : rowF h n i = rowF h n (i - 1) := by
  rw [← rowF_step h n i hi hj, h0]
  revert hi hj
  exact seven (p := fun i => rowF h n i = (rowF h n i).take (0 + i * 1) ++ [.int .u8 (IntKind.u8.wrap ((0 : Nat) : Int))] ++ (rowF h n i).drop (0 + i * 1 + 1)) rfl rfl rfl rfl rfl rfl rfl i
theorem rowF_end (b : Bool) (e : Nat) (he : e < 128) (n : Nat) (z : Int) (hz : IntKind.u8.wrap z = (if b then 128 else 0) + (e : Int)) : rowF (.int .u8 (IntKind.u8.wrap z)) n 0 = (ebytes b e (n : Int)).map (Value.int .u8) := by
  rw [hz]
  simp [rowF, ebytes, List.range, List.range.loop]
theorem rhead1 (e : Nat) (he : e < 128) : IntKind.u8.wrap (IntKind.i64.wrap ((e : Int) + 128)) = (if true then 128 else 0) + (e : Int) := by
  rw [IntKind.wrap_i64, IntKind.wrap_u8]
  simp only [if_true]
  omega
theorem rhead0 (e : Nat) (he : e < 128) : IntKind.u8.wrap (e : Int) = (if false then 128 else 0) + (e : Int) := by
  rw [IntKind.wrap_u8]
  simp only [Bool.false_eq_true, if_false]
  omega
theorem div_step (n i : Nat) (hi : 1 ≤ i) (hj : i ≤ 7) : n / 256 ^ (7 - i) / 256 = n / 256 ^ (7 - (i - 1)) := by
  rw [Nat.div_div_eq_div_mul, ← Nat.pow_succ, show (7 - i).succ = 7 - (i - 1) by omega]

section
variable {Γ : List Fact} {L : Nat} {fin : VS → List Fact → Prop}
/-- The only digit of a small number of the reference. -/
theorem W.digit {P : Program} {c : Cfg} (s : Sl) {x : Nat} [h : Has (RF s) (L, x) Γ] (hm : midOps c.k = false) (hn : 0 < s.n) (hx : x < 10000)
    (hk : ∀ b off, s.ao = some ⟨b, off, none⟩ → W tb P fin c ([RA (some ⟨b, off, none⟩) [.int .i64 (x : Int)]] ++ Γ)) : W tb P fin c Γ :=
  W.elim (α := Nat × Nat) (fun y => s.ao = some ⟨y.1, y.2, none⟩) (fun y => [RA (some ⟨y.1, y.2, none⟩) [.int .i64 (x : Int)]]) hm (fun I w _ hh => by
    obtain ⟨h1, h2, _⟩ := h.p hh
    obtain ⟨l, ⟨g1, g2, g3, g4⟩, hd, hN, hv⟩ := h1
    simp only at g1 g4 hv h2
    obtain ⟨b, off, cur, ha, hb, _, hr⟩ := g4 hn
    have hl : l.length ≤ 1 := hN.len_of_lt (B := 10000) (by decide) (by rw [hv]; simpa using hx)
    have hl1 : l.length = 1 := by omega
    obtain ⟨d, rfl⟩ := List.length_eq_one_iff.1 hl1
    have hdx : d = x := by rw [← hv, val_cons, val_nil]; omega
    subst hdx
    refine ⟨(b, off), ha, Holds.cons (fun _ => ⟨b, off, rfl, h2 hn b off none ha, fun i v hv => ?_⟩) (Holds.nil _ _)⟩
    cases i with
    | zero =>
      simp only [List.getElem?_cons_zero, Option.some.injEq] at hv
      subst hv
      have := hr 0 hn
      simp only [World.cell?, hb]
      exact this
    | succ k => simp at hv) (fun y hy => hk y.1 y.2 hy)
theorem W.iao {T : Tb} {P : Program} {c : Cfg} (D : List Nat) (n : Nat) (ao : Option Addr) (b off len cap : Nat) (k : IntKind) (i : Nat) (z : Int) (hz : z = i) (hT : T.Ok P) (h : readIa T (vstep T (Go.Proofs.Ythjhcddkdplegaa.runs T D 999 c)) = some (n, .slice ao len cap, .int k z)) (ha : ao = some ⟨b, off, none⟩) (hi : i < len)
    (hk : W T P fin (resume (vstep T (Go.Proofs.Ythjhcddkdplegaa.runs T D 999 c)) (.pointer (some ⟨b, off + i * n, none⟩))) Γ) : W T P fin c Γ := by
  subst ha
  exact W.ia D n b off len cap k i z hz hT h hi hk
theorem p_pdiv (S : Int) (s : Sl) (R : Int) (t : Sl) {q : Rat} [h : Has (PF S s R t) (L, q) Γ] (hL : L ≤ 1000000 := by omega) :
    PCalls tb Try.prog 58 [mv s, mv t] Γ (fun v Δ => ∃ (u v' : Sl) (n d : Int), 0 < d ∧ q = Rat.divInt n d ∧ v = .tuple #[mv u, mv v'] ∧ (n.natAbs % d.natAbs = 0 ↔ v'.n = 0) ∧ Δ = [RF u (L, n.natAbs / d.natAbs), RF v' (min L L, n.natAbs % d.natAbs)]) :=
  ⟨⟨_, Try.func58, by kernel_rfl, by kernel_rfl⟩, fun I w hd hh => by
    obtain ⟨n, d, h1, h2, hd0, hq⟩ := h.p hh
    have hp := r_div' (Γ := [RF s (L, n.natAbs), RF t (L, d.natAbs)]) (L := L) (M := L) s t (x := n.natAbs) (y := d.natAbs) (by omega) hL hL
    refine (hp.2 I w hd (Holds.cons h1.1 (holds1 h2.1))).mono ?_
    rintro e w' ⟨v, Δ, rfl, ⟨u, v', rfl, hv, rfl⟩, hb, hΔ⟩
    exact ⟨_, _, rfl, ⟨u, v', n, d, hd0, hq, rfl, hv, rfl⟩, hb, hΔ⟩⟩
--<enc
set_option maxHeartbeats 1000000 in
theorem r_enc (S : Int) (s : Sl) (R : Int) (t : Sl) {q : Rat} [h : Has (PF S s R t) (L, q) Γ] (hL : L ≤ 100000 := by omega) :
    PCalls tb Try.prog 24 [pv S s R t] Γ (EncP q) := by
  refine PCalls.of_W tbOk Try.func24 rfl (by kernel_rfl) ?_
  refine W.know (S = q.num.sign) rfl (fun I w _ hh => by
    obtain ⟨n, d, h1, _, hd, hq⟩ := h.p hh
    rw [h1.2]
    exact sign_of hd hq) (fun hS => ?_)
  refine W.d [] 14 (S == 0) (by kernel_rfl) (fun hb => ?_) (fun hb => ?_)
  · have hq0 : q = 0 := sign_eq0.1 (by rw [← hS]; simpa using hb)
    refine W.mks [14] [] 1 1 8 [.int .u8 0] [.int .u8 0, .int .u8 0, .int .u8 0, .int .u8 0, .int .u8 0, .int .u8 0, .int .u8 0, .int .u8 0] .i64 .i64 tbOk (by kernel_rfl) (by kernel_rfl) (by decide) (by decide) (fun g => ?_)
    refine W.pubr [] [] g [.int .u8 0, .int .u8 0, .int .u8 0, .int .u8 0, .int .u8 0, .int .u8 0, .int .u8 0, .int .u8 0] (by kernel_rfl) (by kernel_rfl) ?_
    refine W.r [] (.tuple #[.slice (some ⟨g, 0, none⟩) 8 8, .int .i64 0]) (by kernel_rfl) ⟨_, .inl ⟨hq0, rfl⟩, .inr ⟨_, some ⟨g, 0, none⟩, 8, rfl, rfl, by intro z hz; simp at hz; omega, rfl, Nat.le_refl _, rfl⟩⟩ (entRA (b := g) (fun i v hv => hv))
  · have hq0 : q ≠ 0 := fun e => by
      rw [hS, sign_eq0.2 e] at hb
      exact absurd hb (by decide)
    have hs0 := qabs_gt hq0
    refine W.lp [14] [4] (fun a : Nat × Int => [(4, .int .i64 a.2)]) (fun _ => []) (fun _ => [PF S s R t (L, q)]) (fun a => a.2 = a.1 ∧ a.1 ≤ 128 ∧ EncR (qabs q) a.1) (fun a => 128 - a.1) (0, 0) (by kernel_rfl) (by kernel_rfl) ⟨rfl, by omega, fun e' he' => absurd he' (by omega)⟩ (entP (by omega) rfl) ?_
    rintro ⟨e, z⟩ R1 ⟨hz, he, hE⟩ close
    simp only at hz he hE
    refine W.d [] 17 (decide (z < 128)) (by kernel_rfl) (fun hb => ?_) (fun hb => ?_)
    rotate_left
    · have hk := of_decide_eq_false hb
      have he8 : e = 128 := by omega
      subst he8
      refine W.r [17] (.tuple #[.slice none 0 0, .int .i64 4]) (by kernel_rfl) ⟨none, enc_none hq0 hE, .inl ⟨rfl, rfl, rfl⟩⟩ ent0
    have hk := of_decide_eq_true hb
    refine W.cl [17] (by kernel_rfl) (r_sixteen (IntKind.i64.wrap (78 - z)) (78 - (e : Int)) (by simp only [IntKind.wrap_i64]; omega) (by omega) (by omega)) ?_
    rintro _ _ ⟨S2, s2, R2, t2, rfl, rfl⟩
    refine W.cl [] (by kernel_rfl) (s_mul S s R t S2 s2 R2 t2) ?_
    rintro _ _ ⟨S3, s3, R3, t3, rfl, rfl⟩
    refine W.cl [] (by kernel_rfl) (p_pdiv S3 s3 R3 t3) ?_
    rintro _ _ ⟨u4, v4, n, d, hd0, hqd, rfl, hv, rfl⟩
    have hM := M_of hqd hd0
    refine W.d [] 39 (decide ((v4.n : Int) > 0)) (by kernel_rfl) (fun hb1 => ?_) (fun hb1 => ?_)
    · have hk1 := of_decide_eq_true hb1
      refine close [44, 39] _ _ (e + 1, IntKind.i64.wrap (z + 1)) (by kernel_rfl) (by kernel_rfl) ⟨by simp only [IntKind.wrap_i64]; omega, by omega, hE.succ (.inl (den_ne hM hd0 (by omega)))⟩ (by simp only; omega) (entP (by omega) rfl)
    have hk1 := of_decide_eq_false hb1
    have hwhole := M_whole hM hd0 (hv.2 (by omega))
    generalize hQ : n.natAbs / d.natAbs = Q at *
    refine W.cl [39] (by kernel_rfl) (r_two9z 56 56 rfl (by decide)) ?_
    rintro _ _ ⟨u5, rfl, rfl⟩
    refine W.cl [39] (by kernel_rfl) (r_cmp u4 u5) ?_
    rintro _ _ ⟨rfl, rfl⟩
    refine W.d [39] 44 (decide (cmpN Q (2 ^ 56) ≥ 0)) (by kernel_rfl) (fun hb2 => ?_) (fun hb2 => ?_)
    · have hk2 := cmpN_ge' (of_decide_eq_true hb2)
      refine close [44] _ _ (e + 1, IntKind.i64.wrap (z + 1)) (by kernel_rfl) (by kernel_rfl) ⟨by simp only [IntKind.wrap_i64]; omega, by omega, hE.succ (.inr ?_)⟩ (by simp only; omega) (entP (by omega) rfl)
      rw [hwhole, Rat.intCast_le_intCast]
      have : (2 : Nat) ^ 56 = 72057594037927936 := by decide
      omega
    have hk2 := cmpN_lt' (of_decide_eq_false hb2)
    have hE2 := hE.first hs0 hwhole
    have hden : (M (qabs q) e).den = 1 := by rw [hwhole]; rfl
    have hnum : (M (qabs q) e).num = (Q : Int) := by rw [hwhole]; rfl
    have h56 : (2 : Nat) ^ 56 = 72057594037927936 := by decide
    have hEnc : Enc q (some (ebytes (decide (q < 0)) e (Q : Int))) := .inr ⟨hq0, e, hE2, .inr ⟨by omega, by rw [hwhole, Rat.intCast_lt_intCast]; omega, .inr ⟨hden, by rw [hnum]⟩⟩⟩
    refine W.mks [44] [] 1 1 8 [.int .u8 0] [.int .u8 0, .int .u8 0, .int .u8 0, .int .u8 0, .int .u8 0, .int .u8 0, .int .u8 0, .int .u8 0] .i64 .i64 tbOk (by kernel_rfl) (by kernel_rfl) (by decide) (by decide) (fun g => ?_)
    refine W.ia [] 1 g 0 8 8 .i64 0 0 rfl tbOk (by kernel_rfl) (by decide) ?_
    refine W.stn [] [(g, [.int .u8 0, .int .u8 0, .int .u8 0, .int .u8 0, .int .u8 0, .int .u8 0, .int .u8 0, .int .u8 0])] [] [] 1 g (0 + 0 * 1) [.int .u8 0, .int .u8 0, .int .u8 0, .int .u8 0, .int .u8 0, .int .u8 0, .int .u8 0, .int .u8 0] (.int .u8 (IntKind.u8.wrap z)) (rowF (.int .u8 (IntKind.u8.wrap z)) Q 7) tbOk (by kernel_rfl) rfl rfl (one_int _ _) (by simp) rfl ?_
    refine W.d [] 53 (decide (S < 0)) (by kernel_rfl) (fun hb3 => ?_) (fun hb3 => ?_)
    · have hlt : q < 0 := sign_lt0.1 (by rw [← hS]; exact of_decide_eq_true hb3)
      rw [decide_eq_true hlt] at hEnc
      refine W.ia [53] 1 g 0 8 8 .i64 0 0 rfl tbOk (by kernel_rfl) (by decide) ?_
      refine W.stn [] [(g, rowF (.int .u8 (IntKind.u8.wrap z)) Q 7)] [] [] 1 g (0 + 0 * 1) (rowF (.int .u8 (IntKind.u8.wrap z)) Q 7) (.int .u8 (IntKind.u8.wrap (IntKind.i64.wrap (z + 128)))) (rowF (.int .u8 (IntKind.u8.wrap (IntKind.i64.wrap (z + 128)))) Q 7) tbOk (by kernel_rfl) rfl rfl (one_int _ _) (by simp [rowF]) rfl ?_
      refine W.lpo [] [9] (fun a : Nat × Int × Sl × List Value => [(9, .int .i64 a.2.1)]) (fun a => [(6, [.slice a.2.2.1.ao a.2.2.1.n a.2.2.1.c])]) (fun a => [(g, a.2.2.2)]) (fun a => [RF a.2.2.1 (L + 901, Q / 256 ^ (7 - a.1))]) (fun a => a.2.1 = a.1 ∧ a.1 ≤ 7 ∧ a.2.2.2 = rowF (.int .u8 (IntKind.u8.wrap (IntKind.i64.wrap (z + 128)))) Q a.1) (fun a => a.1) (7, 7, u4, rowF (.int .u8 (IntKind.u8.wrap (IntKind.i64.wrap (z + 128)))) Q 7) (by kernel_rfl) (by kernel_rfl) ⟨rfl, Nat.le_refl _, rfl⟩ (entR (by omega) (by simp)) ?_
      rintro ⟨i, zi, u, row⟩ R2 ⟨hzi, hi7, hrow⟩ close2
      simp only at hzi hi7 hrow
      refine W.d [] 60 (decide (zi > 0)) (by kernel_rfl) (fun hc => ?_) (fun hc => ?_)
      rotate_left
      · have hk9 := of_decide_eq_false hc
        have hi0 : i = 0 := by omega
        subst hi0
        have hR : row = (ebytes true e (Q : Int)).map (Value.int .u8) := by
          rw [hrow]
          exact rowF_end true e (by omega) Q _ (by subst hz; exact rhead1 e (by omega))
        subst hR
        refine W.pubr [] [] g ((ebytes true e (Q : Int)).map (Value.int .u8)) (by kernel_rfl) (by kernel_rfl) ?_
        refine W.r [60] (.tuple #[.slice (some ⟨g, 0, none⟩) 8 8, .int .i64 0]) (by kernel_rfl) ⟨_, hEnc, .inr ⟨_, some ⟨g, 0, none⟩, 8, rfl, rfl, ebytes_ok _ (by omega) _, rfl, Nat.le_refl _, rfl⟩⟩ (entRA (b := g) (fun i v hv => hv))
      have hk9 := of_decide_eq_true hc
      refine W.cl [60] (by kernel_rfl) (r_of' 256 256 rfl (by decide)) ?_
      rintro _ _ ⟨u12, rfl, rfl⟩
      refine W.cl [] (by kernel_rfl) (r_div' u u12 (by decide)) ?_
      rintro _ _ ⟨u13, v13, rfl, hv0, rfl⟩
      have hrl : row.length = 8 := by rw [hrow]; rfl
      refine W.d [] 73 (decide ((v13.n : Int) > 0)) (by kernel_rfl) (fun hd => ?_) (fun hd => ?_)
      · have hvn := of_decide_eq_true hd
        have hlt : Q / 256 ^ (7 - i) % 256 < 10000 := Nat.lt_of_lt_of_le (Nat.mod_lt _ (by decide)) (by decide)
        refine W.digit v13 (by kernel_rfl) (by omega) hlt (fun b0 of0 hao => ?_)
        refine W.iao [73] 1 v13.ao b0 of0 v13.n v13.c .i64 0 0 rfl tbOk (by kernel_rfl) hao (by omega) ?_
        refine W.ld [] 1 b0 (of0 + 0 * 1) (.int .i64 ((Q / 256 ^ (7 - i) % 256 : Nat) : Int)) tbOk (by kernel_rfl) (RA.rd b0 of0 0 rfl) ?_
        refine W.ia [] 1 g 0 8 8 .i64 i zi hzi tbOk (by kernel_rfl) (by omega) ?_
        refine W.stn [] [(g, row)] [] [] 1 g (0 + i * 1) row (.int .u8 (IntKind.u8.wrap ((Q / 256 ^ (7 - i) % 256 : Nat) : Int))) (row.take (0 + i * 1) ++ [.int .u8 (IntKind.u8.wrap ((Q / 256 ^ (7 - i) % 256 : Nat) : Int))] ++ row.drop (0 + i * 1 + 1)) tbOk (by kernel_rfl) rfl rfl (one_int _ _) (by omega) rfl ?_
        refine close2 [] _ _ (i - 1, IntKind.i64.wrap (zi - 1), u13, (row.take (0 + i * 1) ++ [.int .u8 (IntKind.u8.wrap ((Q / 256 ^ (7 - i) % 256 : Nat) : Int))] ++ row.drop (0 + i * 1 + 1))) (by kernel_rfl) (by kernel_rfl) ⟨by simp only [IntKind.wrap_i64]; omega, by simp only; omega, ?_⟩ (by simp only; omega) (entR (by omega) (div_step Q i (by omega) hi7))
        simp only
        rw [hrow]
        exact rowF_step (.int .u8 (IntKind.u8.wrap (IntKind.i64.wrap (z + 128)))) Q i (by omega) hi7
      · have hvn := of_decide_eq_false hd
        refine close2 [73] _ _ (i - 1, IntKind.i64.wrap (zi - 1), u13, row) (by kernel_rfl) (by kernel_rfl) ⟨by simp only [IntKind.wrap_i64]; omega, by simp only; omega, ?_⟩ (by simp only; omega) (entR (by omega) (div_step Q i (by omega) hi7))
        simp only
        rw [hrow]
        exact rowF_zero (.int .u8 (IntKind.u8.wrap (IntKind.i64.wrap (z + 128)))) Q i (by omega) hi7 (hv0.2 (by omega))
    · have hlt : ¬ q < 0 := fun hl => absurd (sign_lt0.2 hl) (by rw [← hS]; exact of_decide_eq_false hb3)
      rw [decide_eq_false hlt] at hEnc
      refine W.lpo [53] [9] (fun a : Nat × Int × Sl × List Value => [(9, .int .i64 a.2.1)]) (fun a => [(6, [.slice a.2.2.1.ao a.2.2.1.n a.2.2.1.c])]) (fun a => [(g, a.2.2.2)]) (fun a => [RF a.2.2.1 (L + 901, Q / 256 ^ (7 - a.1))]) (fun a => a.2.1 = a.1 ∧ a.1 ≤ 7 ∧ a.2.2.2 = rowF (.int .u8 (IntKind.u8.wrap z)) Q a.1) (fun a => a.1) (7, 7, u4, rowF (.int .u8 (IntKind.u8.wrap z)) Q 7) (by kernel_rfl) (by kernel_rfl) ⟨rfl, Nat.le_refl _, rfl⟩ (entR (by omega) (by simp)) ?_
      rintro ⟨i, zi, u, row⟩ R2 ⟨hzi, hi7, hrow⟩ close2
      simp only at hzi hi7 hrow
      refine W.d [] 60 (decide (zi > 0)) (by kernel_rfl) (fun hc => ?_) (fun hc => ?_)
      rotate_left
      · have hk9 := of_decide_eq_false hc
        have hi0 : i = 0 := by omega
        subst hi0
        have hR : row = (ebytes false e (Q : Int)).map (Value.int .u8) := by
          rw [hrow]
          exact rowF_end false e (by omega) Q _ (by subst hz; exact rhead0 e (by omega))
        subst hR
        refine W.pubr [] [] g ((ebytes false e (Q : Int)).map (Value.int .u8)) (by kernel_rfl) (by kernel_rfl) ?_
        refine W.r [60] (.tuple #[.slice (some ⟨g, 0, none⟩) 8 8, .int .i64 0]) (by kernel_rfl) ⟨_, hEnc, .inr ⟨_, some ⟨g, 0, none⟩, 8, rfl, rfl, ebytes_ok _ (by omega) _, rfl, Nat.le_refl _, rfl⟩⟩ (entRA (b := g) (fun i v hv => hv))
      have hk9 := of_decide_eq_true hc
      refine W.cl [60] (by kernel_rfl) (r_of' 256 256 rfl (by decide)) ?_
      rintro _ _ ⟨u12, rfl, rfl⟩
      refine W.cl [] (by kernel_rfl) (r_div' u u12 (by decide)) ?_
      rintro _ _ ⟨u13, v13, rfl, hv0, rfl⟩
      have hrl : row.length = 8 := by rw [hrow]; rfl
      refine W.d [] 73 (decide ((v13.n : Int) > 0)) (by kernel_rfl) (fun hd => ?_) (fun hd => ?_)
      · have hvn := of_decide_eq_true hd
        have hlt : Q / 256 ^ (7 - i) % 256 < 10000 := Nat.lt_of_lt_of_le (Nat.mod_lt _ (by decide)) (by decide)
        refine W.digit v13 (by kernel_rfl) (by omega) hlt (fun b0 of0 hao => ?_)
        refine W.iao [73] 1 v13.ao b0 of0 v13.n v13.c .i64 0 0 rfl tbOk (by kernel_rfl) hao (by omega) ?_
        refine W.ld [] 1 b0 (of0 + 0 * 1) (.int .i64 ((Q / 256 ^ (7 - i) % 256 : Nat) : Int)) tbOk (by kernel_rfl) (RA.rd b0 of0 0 rfl) ?_
        refine W.ia [] 1 g 0 8 8 .i64 i zi hzi tbOk (by kernel_rfl) (by omega) ?_
        refine W.stn [] [(g, row)] [] [] 1 g (0 + i * 1) row (.int .u8 (IntKind.u8.wrap ((Q / 256 ^ (7 - i) % 256 : Nat) : Int))) (row.take (0 + i * 1) ++ [.int .u8 (IntKind.u8.wrap ((Q / 256 ^ (7 - i) % 256 : Nat) : Int))] ++ row.drop (0 + i * 1 + 1)) tbOk (by kernel_rfl) rfl rfl (one_int _ _) (by omega) rfl ?_
        refine close2 [] _ _ (i - 1, IntKind.i64.wrap (zi - 1), u13, (row.take (0 + i * 1) ++ [.int .u8 (IntKind.u8.wrap ((Q / 256 ^ (7 - i) % 256 : Nat) : Int))] ++ row.drop (0 + i * 1 + 1))) (by kernel_rfl) (by kernel_rfl) ⟨by simp only [IntKind.wrap_i64]; omega, by simp only; omega, ?_⟩ (by simp only; omega) (entR (by omega) (div_step Q i (by omega) hi7))
        simp only
        rw [hrow]
        exact rowF_step (.int .u8 (IntKind.u8.wrap z)) Q i (by omega) hi7
      · have hvn := of_decide_eq_false hd
        refine close2 [73] _ _ (i - 1, IntKind.i64.wrap (zi - 1), u13, row) (by kernel_rfl) (by kernel_rfl) ⟨by simp only [IntKind.wrap_i64]; omega, by simp only; omega, ?_⟩ (by simp only; omega) (entR (by omega) (div_step Q i (by omega) hi7))
        simp only
        rw [hrow]
        exact rowF_zero (.int .u8 (IntKind.u8.wrap z)) Q i (by omega) hi7 (hv0.2 (by omega))
-->enc
end
end Go.Proofs.Ythjhcddkdplegaa
