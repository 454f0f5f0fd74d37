
/- Numbers of eight bytes: their order. A copy is the caller's own. -/
import Derived.Test.YthjhcddkdplegaaRo
set_option linter.unusedSimpArgs false
set_option linter.unusedVariables false
namespace Go.Proofs.Ythjhcddkdplegaa
open Go.RowKit Go.IntWalk

/-- The first difference decides. -/
def lexC : List Int → List Int → Int
  | a :: r, b :: s => if a < b then -1 else if b < a then 1 else lexC r s
  | _, _ => 0
theorem be_cons (a : Int) (r : List Int) : ∀ m : Int, (a :: r).foldl (fun m z => 256 * m + z) m = r.foldl (fun m z => 256 * m + z) (256 * m + a) := fun _ => rfl
theorem fold_lt : ∀ (r s : List Int) (m n : Int), r.length = s.length → Bytes r → Bytes s → m < n → r.foldl (fun m z => 256 * m + z) m < s.foldl (fun m z => 256 * m + z) n
  | [], [], m, n, _, _, _, h => h
  | a :: r, b :: s, m, n, hl, hr, hs, h => by
    have ha := hr a (by simp)
    have hb := hs b (by simp)
    rw [be_cons, be_cons]
    exact fold_lt r s _ _ (by simpa using hl) (fun z hz => hr z (by simp [hz])) (fun z hz => hs z (by simp [hz])) (by omega)
theorem lex_fold : ∀ (r s : List Int) (m : Int), r.length = s.length → Bytes r → Bytes s → cmpZ (r.foldl (fun m z => 256 * m + z) m) (s.foldl (fun m z => 256 * m + z) m) = lexC r s
  | [], [], m, _, _, _ => by simp [lexC, cmpZ]
  | a :: r, b :: s, m, hl, hr, hs => by
    have hr' : Bytes r := fun z hz => hr z (by simp [hz])
    have hs' : Bytes s := fun z hz => hs z (by simp [hz])
    have hl' : r.length = s.length := by simpa using hl
    rw [be_cons, be_cons]
    unfold lexC
    by_cases h1 : a < b
    · rw [if_pos h1]
      unfold cmpZ
      rw [if_pos (fold_lt r s _ _ hl' hr' hs' (by omega))]
    · rw [if_neg h1]
      by_cases h2 : b < a
      · rw [if_pos h2]
        have := fold_lt s r _ _ hl'.symm hs' hr' (show 256 * m + b < 256 * m + a by omega)
        unfold cmpZ
        rw [if_neg (by omega), if_neg (by omega)]
      · rw [if_neg h2]
        obtain rfl : a = b := by omega
        exact lex_fold r s _ hl' hr' hs'
theorem lexC_step {A B : List Int} {i : Nat} (ha : i < A.length) (hb : i < B.length) : lexC (A.drop i) (B.drop i) = if A.getD i 0 < B.getD i 0 then -1 else if B.getD i 0 < A.getD i 0 then 1 else lexC (A.drop (i + 1)) (B.drop (i + 1)) := by
  rw [List.drop_eq_getElem_cons ha, List.drop_eq_getElem_cons hb]
  simp only [lexC, List.getD, List.getElem?_eq_getElem ha, List.getElem?_eq_getElem hb, Option.getD_some]
theorem lexC_end {A B : List Int} (ha : A.length = 8) (hb : B.length = 8) : lexC (A.drop 8) (B.drop 8) = 0 := by
  rw [List.drop_eq_nil_of_le (by omega), List.drop_eq_nil_of_le (by omega)]
  rfl
theorem order_law {A B : List Int} (ha : A.length = 8) (hb : B.length = 8) (hA : Bytes A) (hB : Bytes B) (h0 : A.getD 0 0 = B.getD 0 0) (h1 : A.getD 0 0 < 128) : cmpQ (rval A) (rval B) = lexC (A.drop 1) (B.drop 1) := by
  rw [← lex_fold _ _ 0 (by simp [ha, hb]) (fun z hz => hA z (List.mem_of_mem_drop hz)) (fun z hz => hB z (List.mem_of_mem_drop hz))]
  show _ = cmpZ (be (A.drop 1)) (be (B.drop 1))
  unfold rval
  rw [if_pos ha, if_pos hb, ← h0, if_neg (by omega), Rat.one_mul, Rat.one_mul]
  generalize be (A.drop 1) = m
  generalize be (B.drop 1) = n
  have hp := pw_pos (4 * (A.getD 0 0 % 128 - 78))
  generalize pw (4 * (A.getD 0 0 % 128 - 78)) = p at *
  rcases Int.lt_trichotomy m n with h | h | h
  · have h' : (m : Rat) < (n : Rat) := Rat.intCast_lt_intCast.2 h
    have : (m : Rat) * p < (n : Rat) * p := Rat.mul_lt_mul_of_pos_right h' hp
    rw [show cmpQ ((m : Rat) * p) ((n : Rat) * p) = -1 from if_pos this, show cmpZ m n = -1 from if_pos h]
  · subst h
    rw [cmpQ_eq.2 rfl]
    simp [cmpZ]
  · have h' : (n : Rat) < (m : Rat) := Rat.intCast_lt_intCast.2 h
    have : (n : Rat) * p < (m : Rat) * p := Rat.mul_lt_mul_of_pos_right h' hp
    have e1 : cmpQ ((m : Rat) * p) ((n : Rat) * p) = 1 := by
      unfold cmpQ
      rw [if_neg (by grind), if_neg (by grind)]
    have e2 : cmpZ m n = 1 := by
      unfold cmpZ
      rw [if_neg (by omega), if_neg (by omega)]
    rw [e1, e2]
theorem step_law {A C : List Int} (ha : A.length = 8) (hc : C.length = 8) (h : C.drop 1 = A.drop 1) (h0 : 0 ≤ A.getD 0 0) (h1 : A.getD 0 0 < 128) (hC : C.getD 0 0 = (A.getD 0 0 + 1) % 128) (hne : C.getD 0 0 ≠ 0) : rval C = rval A * Rat.divInt 16 1 := by
  unfold rval
  rw [if_pos ha, if_pos hc, h, if_neg (by omega), if_neg (by omega), Rat.one_mul]
  have e : 4 * (C.getD 0 0 % 128 - 78) = 4 * (A.getD 0 0 % 128 - 78) + 4 := by omega
  rw [e, pw_add, ← Rat.mul_assoc]
  congr 1

section
variable {Γ : List Fact} {L : Nat} {fin : VS → List Fact → Prop}
theorem entRAs {b off : Nat} {xs : List Value} [h : Has (RA (some ⟨b, off, none⟩)) xs Γ] : ∀ (I : Blk) (w : World), DataOK tb I w → Holds Γ I w → Holds [RA (some ⟨b, off, none⟩) xs] I w := fun I w _ hh => Holds.cons (h.p hh) (Holds.nil _ _)
theorem map_get {A : List Int} {i : Nat} (h : i < A.length) : (A.map (Value.int .u8))[i]? = some (.int .u8 (A.getD i 0)) := by
  simp [List.getD, List.getElem?_eq_getElem h]
theorem p_copiedO (ao : Option Addr) (n c : Nat) (zs : List Int) [h : Has (RA ao) (zs.map (Value.int .u8)) Γ] (hn : n = zs.length) (hc : n ≤ 1000000) (h0 : zs ≠ []) :
    PCallsO tb Try.prog 8 [.slice ao n c] Γ (fun v O Δ => ∃ g cap cur, v = .slice (some ⟨g, 0, none⟩) n cap ∧ n ≤ cap ∧ O = [(g, cur)] ∧ cur.take n = zs.map (Value.int .u8) ∧ Δ = []) := by
  refine PCallsO.of_W tbOk Try.func8 rfl (by kernel_rfl) ?_
  refine W.ra ao rfl (by simpa using h0) (fun ba of e => ?_)
  subst e
  refine W.bs0 [] tbOk (by kernel_rfl) (fun b1 => ?_)
  refine W.ap0 [] [] 1 1 n b1 0 (.slice (some ⟨ba, of, none⟩) n c) (zs.map (Value.int .u8)) tbOk (by kernel_rfl) (reads_ra (some ⟨ba, of, none⟩) [] n 1 c (by simp [hn]) (fun _ => ⟨ba, of, rfl⟩)) hc (by decide) (fun h1 => absurd (List.eq_nil_of_length_eq_zero (by omega)) h0) (fun g cap cur h1 h2 h3 h4 h5 => ?_)
  exact W.ro [] (.slice (some ⟨g, 0, none⟩) n cap) [(g, cur)] (by kernel_rfl) (by kernel_rfl) ⟨g, cap, cur, rfl, h2, rfl, by rw [← h5, Nat.mul_one], rfl⟩ ent0
end
end Go.Proofs.Ythjhcddkdplegaa
