/- nat: Parse. -/
import Derived.Test.YtnjohlimjbmkgaaProg
import Derived.Test.YtnjohlimjbmkgaaNatA
import Derived.Test.YtnjohlimjbmkgaaNatB
import Derived.Test.YtnjohlimjbmkgaaMathT
import Derived.Deep.DeepCutAuto
import Derived.Lib.Strings
import Derived.Deep.RegionWith
namespace Go.Proofs.Ytnjohlimjbmkgaa
open Go.RowKit

/-- The bytes of a text, as numbers. -/
def bs (s : ByteArray) : List Nat := s.data.toList.map fun b => b.toNat

theorem parse_long (s : ByteArray) (w : World) (h : 4096 < s.size) (h2 : s.size ≤ 9223372036854775807) :
    Calls Try.prog 78 #[.string s] w fun e w' => e = .returned (.tuple #[.agg #[.slice none 0 0], .int .i64 2]) ∧ Below w.heap.size w w' := by
  have hl : (4096 : Int) < (s.size : Int) := by omega
  have hE := ents1 w (.cells #[.slice none 0 0] 31)
  have hbx : Below w.heap.size w _ := (Below.refl w.heap.size w).alloc (Nat.le_refl _) (.cells #[.slice none 0 0] 31)
  go_enter Try.func78, Try.ntmps78
  go_wp2
  exact bodyPost_ret (v := .tuple #[.agg #[.slice none 0 0], .int .i64 2]) (by simp [results, Try.results78, go_sem]) rfl ⟨rfl, hbx⟩

theorem parse_empty (s : ByteArray) (w : World) (h : s.size = 0) :
    Calls Try.prog 78 #[.string s] w fun e w' => e = .returned (.tuple #[.agg #[.slice none 0 0], .int .i64 3]) ∧ Below w.heap.size w w' := by
  have hs : s = ⟨#[]⟩ := by
    obtain ⟨d⟩ := s
    have : d.size = 0 := h
    simp at this
    rw [this]
  subst hs
  have hbx : Below w.heap.size w _ := (Below.refl w.heap.size w).alloc (Nat.le_refl _) (.cells #[.slice none 0 0] 31)
  go_enter Try.func78, Try.ntmps78
  go_wp2
  exact bodyPost_ret (v := .tuple #[.agg #[.slice none 0 0], .int .i64 3]) (by simp [results, Try.results78, go_sem]) rfl ⟨rfl, hbx⟩

theorem parse_zero (s : ByteArray) (w : World) (h : 1 < s.size) (h2 : s.size ≤ 4096) (h0 : (s[0]'(by omega)).toNat = 48) :
    Calls Try.prog 78 #[.string s] w fun e w' => e = .returned (.tuple #[.agg #[.slice none 0 0], .int .i64 3]) ∧ Below w.heap.size w w' := by
  have hl : (1 : Int) < (s.size : Int) := by omega
  have hl2 : decide ((4096 : Int) < (s.size : Int)) = false := by simp; omega
  have hne : s.toList.isEmpty = false := by
    rw [Lib.toList_data]
    have : s.data.toList.length = s.size := by simp
    cases hq : s.data.toList with
    | nil => rw [hq] at this; simp at this; omega
    | cons a l => rfl
  have h48 : (((s[0]'(by omega)).toNat : Int) == 48) = true := by rw [h0]; rfl
  have hbx : Below w.heap.size w _ := (Below.refl w.heap.size w).alloc (Nat.le_refl _) (.cells #[.slice none 0 0] 31)
  go_enter Try.func78, Try.ntmps78
  go_wp2
  exact bodyPost_ret (v := .tuple #[.agg #[.slice none 0 0], .int .i64 3]) (by simp [results, Try.results78, go_sem]) rfl ⟨rfl, hbx⟩

/-- What Parse answers where the text is neither too long nor wrong in front. -/
def ParsePost (w : World) (s : ByteArray) (e : Ending) (w' : World) : Prop :=
  (Digs (bs s) ∧ ∃ u : Sl, e = .returned (.tuple #[.agg #[.slice u.ao u.n u.c], .int .i64 0]) ∧ NatS w' u (dval (bs s)) ∧ u.n ≤ s.size ∧ Below w.heap.size w w') ∨
  (¬ Digs (bs s) ∧ e = .returned (.tuple #[.agg #[.slice none 0 0], .int .i64 3]) ∧ Below w.heap.size w w')

/-- The digits so far. -/
def ParseRel (w : World) (s : ByteArray) (k : Nat) (wr : World) : Prop := ∃ u : Sl,
  wr.heap[w.heap.size]? = some (.cells #[.slice none 0 0] 31 (0, 0)) ∧ wr.heap[w.heap.size + 1]? = some (.cells #[.slice u.ao u.n u.c] 31 (0, 0)) ∧
  NatS wr u (dval ((bs s).take k)) ∧ u.n ≤ k ∧ Digs ((bs s).take k) ∧ Below w.heap.size w wr

theorem times_nat {w : World} {s : Sl} {x m r : Nat} {v : Int} (h : NatS w s x) (hm : m < 4294967296) (hr : r < 4294967296) (hv : v = (r : Int)) (hn : s.n ≤ 1000000000000) :
    Calls Try.prog 103 #[.slice s.ao s.n s.c, .int .u32 (m : Int), .int .u32 v] w fun e w' =>
      ∃ (t : Sl) (o : List Nat), e = .returned (.slice t.ao t.n t.c) ∧ IntsAt w' 113 .u32 t o ∧ (∀ d ∈ o, d < 4294967296) ∧ val 4294967296 o = x * m + r ∧ t.n ≤ s.n + 1 ∧ Below w.heap.size w w' := by
  obtain ⟨l, h1, h2, h3, h4⟩ := h
  subst h4
  subst hv
  refine (times_walk s.ao s.n s.c l w m r h1 h2 hm hr hn).mono ?_
  rintro e w' ⟨t, o, k1, k2, k3, k4, k5, k6⟩
  exact ⟨t, o, k1, k2, k3, k5, by have := k2.1; omega, k6⟩

set_option maxHeartbeats 1600000 in
theorem parse_rest (s : ByteArray) (w : World) (h : 0 < s.size) (h2 : s.size ≤ 4096) (h0 : s.size = 1 ∨ (s[0]'h).toNat ≠ 48) :
    Calls Try.prog 78 #[.string s] w (ParsePost w s) := by
  have hl2 : decide ((4096 : Int) < (s.size : Int)) = false := by simp; omega
  have hne : s.toList.isEmpty = false := by
    rw [Lib.toList_data]
    have : s.data.toList.length = s.size := by simp
    cases hq : s.data.toList with
    | nil => rw [hq] at this; simp at this; omega
    | cons a l => rfl
  have hE := ents2 w (.cells #[.slice none 0 0] 31) (.cells #[.slice none 0 0] 31)
  have hbx : Below w.heap.size w _ := ((Below.refl w.heap.size w).alloc (Nat.le_refl _) (.cells #[.slice none 0 0] 31)).alloc (by simp) (.cells #[.slice none 0 0] 31)
  have hinit : ParseRel w s 0 _ := ⟨⟨none, 0, 0⟩, hE.1, hE.2.1, NatS.nil _ _ _ (by omega), Nat.le_refl _, by simp [Digs], hbx⟩
  have hz : decide ((1 : Int) < (s.size : Int)) = true → (((s[0]'h).toNat : Int) == 48) = false := by
    intro h1
    simp at h1
    rcases h0 with h0 | h0
    · omega
    · simp; omega
  clear hE
  by_cases h1 : s.size = 1
  · have hl : decide ((1 : Int) < (s.size : Int)) = false := by simp; omega
    clear hz
    go_enter Try.func78, Try.ntmps78
    go_wp2
    go_loopw [27] (fun i wr => ∃ k : Nat, i = .int .i64 k ∧ k ≤ s.size ∧ ParseRel w s k wr) (fun i _ => s.size - (intOf i).toNat)
    case atStart => exact ⟨0, rfl, Nat.zero_le _, hinit⟩
    case round =>
      obtain ⟨k, rfl, hk, u, hE1, hE2, hu, hun, hdk, hbl⟩ := hrel
      by_cases hlt : k < s.size
      · have hk1 : (k : Int) < (s.size : Int) := by omega
        have hA := ent_cell hE2 0
        have hR := ent_cell hE1 0
        have hRf := ent_frozen hE1 0
        have hDm : (s[k]'hlt).toNat ∈ bs s := by
          unfold bs
          refine List.mem_map.2 ⟨s[k]'hlt, ?_, rfl⟩
          exact List.getElem_mem (l := s.data.toList) (n := k) (by simpa using hlt)
        have hDt : (bs s).take (k + 1) = (bs s).take k ++ [(s[k]'hlt).toNat] := by
          have hkl : k < (bs s).length := by simpa [bs] using hlt
          rw [List.take_succ_eq_append_getElem hkl]
          congr 2
          simp [bs]
          rfl
        obtain ⟨D, hD⟩ : ∃ D : Nat, (s[k]'hlt).toNat = D := ⟨_, rfl⟩
        have hDb : D < 256 := by have := (s[k]'hlt).toNat_lt; omega
        rw [hD] at hDm hDt
        by_cases hlo : D < 48
        · have hloI : (D : Int) < 48 := by omega
          go_wp2
          refine bodyPost_ret (v := .tuple #[.agg #[.slice none 0 0], .int .i64 3]) (by simp [results, Try.results78, go_sem, hR]) rfl (.inr ⟨fun hd => ?_, rfl, hbl.setCell (by simp) _⟩)
          have := hd D hDm
          omega
        · have hloI : decide ((D : Int) < 48) = false := by simp; omega
          by_cases hhi : 57 < D
          · have hhiI : (57 : Int) < D := by omega
            go_wp2
            refine bodyPost_ret (v := .tuple #[.agg #[.slice none 0 0], .int .i64 3]) (by simp [results, Try.results78, go_sem, hR]) rfl (.inr ⟨fun hd => ?_, rfl, hbl.setCell (by simp) _⟩)
            have := hd D hDm
            omega
          · have hhiI : decide ((57 : Int) < D) = false := by simp; omega
            have hdig : IntKind.u32.wrap (IntKind.u8.wrap ((D : Int) - 48)) = ((D - 48 : Nat) : Int) := by
              rw [IntWalk.u8_in ((D : Int) - 48) (by omega), IntWalk.u32_in ((D : Int) - 48) (by omega)]
              omega
            have hu0 : NatS wr.drew u (dval ((bs s).take k)) := hu
            have hE1d : wr.drew.heap[w.heap.size]? = some (.cells #[.slice none 0 0] 31 (0, 0)) := hE1
            have hE2d : wr.drew.heap[w.heap.size + 1]? = some (.cells #[.slice u.ao u.n u.c] 31 (0, 0)) := hE2
            have hun2 : u.n ≤ 1000000000000 := by omega
            have hD4 : D - 48 < 4294967296 := by omega
            go_upto_region 11 with fail
            go_region_with (first
              | (go_at_call 103; refine (times_nat (r := D - 48) (m := 10) (v := _) hu0 (by decide) hD4 ?_ hun2).mono ?_; with_reducible rfl; rintro e w1 ⟨t, o, rfl, ht, hto, hov, htn, hb1⟩)
              | (go_at_call 81; refine (cut_spec ht hto).mono ?_; rintro e w2 ⟨v, rfl, hv, hvn, hb2⟩; have hF1 := ent_up hb2 (ent_up hb1 hE1d); have hF2 := ent_up hb2 (ent_up hb1 hE2d); have hc := ent_cell hF2 0; have hcf := ent_frozen hF2 0))
            all_goals (
              have hd1 : Digs ((bs s).take (k + 1)) := by
                rw [hDt]
                intro d hd
                rcases List.mem_append.1 hd with hd | hd
                · exact hdk d hd
                · have : d = D := by simpa using hd
                  omega
              have hval : NatS w2 v (dval ((bs s).take (k + 1))) := by
                rw [hDt, dval_append, Nat.mul_comm 10, ← hov]
                exact hv
              have hblw : Below w.heap.size w w2 := (hbl.trans ((below_undrew hb1).mono hbl.size)).trans (hb2.mono (by have := hbl.size; have := (below_undrew hb1).size; omega))
              go_wp2
              go_round
              case rel =>
                refine ⟨k + 1, by simp, by omega, v, ent_set_other hF1 (by simp) _, ent_set hF2 _, hval.kp ((Kp.refl _).setCell hF2 (by decide) _), by omega, hd1, hblw.setCell (by simp) _⟩
              case measure => simp [intOf]; omega)
      · have hkk : k = s.size := by omega
        subst hkk
        have hA := ent_cell hE2 0
        have hAf := ent_frozen hE2 0
        have hR := ent_cell hE1 0
        have hRf := ent_frozen hE1 0
        have hall : (bs s).take s.size = bs s := List.take_of_length_le (by simp [bs])
        rw [hall] at hu hdk
        go_wp2
        exact bodyPost_ret (v := .tuple #[.agg #[.slice u.ao u.n u.c], .int .i64 0]) (by simp [results, Try.results78, go_sem, hR]) rfl (.inl ⟨hdk, u, rfl, hu.kp ((Kp.refl _).setCell hE1 (by decide) _), hun, hbl.setCell (by simp) _⟩)
  · have hl : (1 : Int) < (s.size : Int) := by omega
    have h48 := hz (by simp; omega)
    go_enter Try.func78, Try.ntmps78
    go_wp2
    go_loopw [27] (fun i wr => ∃ k : Nat, i = .int .i64 k ∧ k ≤ s.size ∧ ParseRel w s k wr) (fun i _ => s.size - (intOf i).toNat)
    case atStart => exact ⟨0, rfl, Nat.zero_le _, hinit⟩
    case round =>
      obtain ⟨k, rfl, hk, u, hE1, hE2, hu, hun, hdk, hbl⟩ := hrel
      by_cases hlt : k < s.size
      · have hk1 : (k : Int) < (s.size : Int) := by omega
        have hA := ent_cell hE2 0
        have hR := ent_cell hE1 0
        have hRf := ent_frozen hE1 0
        have hDm : (s[k]'hlt).toNat ∈ bs s := by
          unfold bs
          refine List.mem_map.2 ⟨s[k]'hlt, ?_, rfl⟩
          exact List.getElem_mem (l := s.data.toList) (n := k) (by simpa using hlt)
        have hDt : (bs s).take (k + 1) = (bs s).take k ++ [(s[k]'hlt).toNat] := by
          have hkl : k < (bs s).length := by simpa [bs] using hlt
          rw [List.take_succ_eq_append_getElem hkl]
          congr 2
          simp [bs]
          rfl
        obtain ⟨D, hD⟩ : ∃ D : Nat, (s[k]'hlt).toNat = D := ⟨_, rfl⟩
        have hDb : D < 256 := by have := (s[k]'hlt).toNat_lt; omega
        rw [hD] at hDm hDt
        by_cases hlo : D < 48
        · have hloI : (D : Int) < 48 := by omega
          go_wp2
          refine bodyPost_ret (v := .tuple #[.agg #[.slice none 0 0], .int .i64 3]) (by simp [results, Try.results78, go_sem, hR]) rfl (.inr ⟨fun hd => ?_, rfl, hbl.setCell (by simp) _⟩)
          have := hd D hDm
          omega
        · have hloI : decide ((D : Int) < 48) = false := by simp; omega
          by_cases hhi : 57 < D
          · have hhiI : (57 : Int) < D := by omega
            go_wp2
            refine bodyPost_ret (v := .tuple #[.agg #[.slice none 0 0], .int .i64 3]) (by simp [results, Try.results78, go_sem, hR]) rfl (.inr ⟨fun hd => ?_, rfl, hbl.setCell (by simp) _⟩)
            have := hd D hDm
            omega
          · have hhiI : decide ((57 : Int) < D) = false := by simp; omega
            have hdig : IntKind.u32.wrap (IntKind.u8.wrap ((D : Int) - 48)) = ((D - 48 : Nat) : Int) := by
              rw [IntWalk.u8_in ((D : Int) - 48) (by omega), IntWalk.u32_in ((D : Int) - 48) (by omega)]
              omega
            have hu0 : NatS wr.drew u (dval ((bs s).take k)) := hu
            have hE1d : wr.drew.heap[w.heap.size]? = some (.cells #[.slice none 0 0] 31 (0, 0)) := hE1
            have hE2d : wr.drew.heap[w.heap.size + 1]? = some (.cells #[.slice u.ao u.n u.c] 31 (0, 0)) := hE2
            have hun2 : u.n ≤ 1000000000000 := by omega
            have hD4 : D - 48 < 4294967296 := by omega
            go_upto_region 11 with fail
            go_region_with (first
              | (go_at_call 103; refine (times_nat (r := D - 48) (m := 10) (v := _) hu0 (by decide) hD4 ?_ hun2).mono ?_; with_reducible rfl; rintro e w1 ⟨t, o, rfl, ht, hto, hov, htn, hb1⟩)
              | (go_at_call 81; refine (cut_spec ht hto).mono ?_; rintro e w2 ⟨v, rfl, hv, hvn, hb2⟩; have hF1 := ent_up hb2 (ent_up hb1 hE1d); have hF2 := ent_up hb2 (ent_up hb1 hE2d); have hc := ent_cell hF2 0; have hcf := ent_frozen hF2 0))
            all_goals (
              have hd1 : Digs ((bs s).take (k + 1)) := by
                rw [hDt]
                intro d hd
                rcases List.mem_append.1 hd with hd | hd
                · exact hdk d hd
                · have : d = D := by simpa using hd
                  omega
              have hval : NatS w2 v (dval ((bs s).take (k + 1))) := by
                rw [hDt, dval_append, Nat.mul_comm 10, ← hov]
                exact hv
              have hblw : Below w.heap.size w w2 := (hbl.trans ((below_undrew hb1).mono hbl.size)).trans (hb2.mono (by have := hbl.size; have := (below_undrew hb1).size; omega))
              go_wp2
              go_round
              case rel =>
                refine ⟨k + 1, by simp, by omega, v, ent_set_other hF1 (by simp) _, ent_set hF2 _, hval.kp ((Kp.refl _).setCell hF2 (by decide) _), by omega, hd1, hblw.setCell (by simp) _⟩
              case measure => simp [intOf]; omega)
      · have hkk : k = s.size := by omega
        subst hkk
        have hA := ent_cell hE2 0
        have hAf := ent_frozen hE2 0
        have hR := ent_cell hE1 0
        have hRf := ent_frozen hE1 0
        have hall : (bs s).take s.size = bs s := List.take_of_length_le (by simp [bs])
        rw [hall] at hu hdk
        go_wp2
        exact bodyPost_ret (v := .tuple #[.agg #[.slice u.ao u.n u.c], .int .i64 0]) (by simp [results, Try.results78, go_sem, hR]) rfl (.inl ⟨hdk, u, rfl, hu.kp ((Kp.refl _).setCell hE1 (by decide) _), hun, hbl.setCell (by simp) _⟩)

end Go.Proofs.Ytnjohlimjbmkgaa
