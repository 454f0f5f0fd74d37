/- nat: Div whole; Gcd. nat: Parse. slices: Reverse of bytes. nat: Text. -/
import Derived.Test.YtlpfkbkpnljieaaGreatProg
import Derived.Test.YtlpfkbkpnljieaaGreatNatV
import Derived.Test.YtlpfkbkpnljieaaGreatNatM
import Derived.Deep.LoopGhost
import Derived.Test.YtlpfkbkpnljieaaGreatNatU
import Derived.Test.YtlpfkbkpnljieaaGreatMaths
import Derived.Deep.DeepCutAuto
import Derived.Lib.Strings
import Derived.Deep.RegionWith
import Derived.Test.YtlpfkbkpnljieaaGreatBase
import Derived.Lib.Hide
import Derived.Laws.IdiomStrings
import Derived.Deep.CutBlock
set_option linter.unusedSimpArgs false
set_option linter.unusedVariables false
namespace Go.Proofs.YtlpfkbkpnljieaaGreat
open Go.RowKit

/-- The quotient and the rest. -/
theorem div_spec {w : World} {s t : Sl} {x y : Nat} (h : NatS w s x) (h' : NatS w t y) (hn : s.n ≤ 100000000000) (hm : t.n ≤ 100000000000) (hy : 0 < y) :
    Calls Tryz.prog 111 #[.agg #[.slice s.ao s.n s.c], .agg #[.slice t.ao t.n t.c]] w fun e w' =>
      ∃ u v : Sl, e = .returned (.tuple #[.agg #[.slice u.ao u.n u.c], .agg #[.slice v.ao v.n v.c], .int .i64 0]) ∧ NatS w' u (x / y) ∧ NatS w' v (x % y) ∧ u.n ≤ s.n ∧ v.n ≤ s.n ∧ v.n ≤ t.n ∧ Below w.heap.size w w' := by
  rcases Nat.lt_or_ge x y with hxy | hxy
  · refine (div_less h h' (by omega) (by omega) hxy).mono ?_
    rintro e w' ⟨rfl, hb⟩
    have e1 : x / y = 0 := Nat.div_eq_of_lt hxy
    have e2 : x % y = x := Nat.mod_eq_of_lt hxy
    rw [e1, e2]
    exact ⟨⟨none, 0, 0⟩, s, rfl, NatS.nil _ _ _ (by omega), h.up hb, Nat.zero_le _, Nat.le_refl _, h.n_le h' (by omega), hb⟩
  · have ht0 : t.n ≠ 0 := by
      have := h'.zero_iff
      omega
    by_cases ht1 : t.n = 1
    · refine (div_one h h' (by omega) ht1 hxy).mono ?_
      rintro e w' ⟨u, v, rfl, hu, hv, _, _, hb⟩
      exact ⟨u, v, rfl, hu, hv, hu.n_le h (Nat.div_le_self _ _), hv.n_le h (Nat.mod_le _ _), hv.n_le h' (Nat.le_of_lt (Nat.mod_lt _ hy)), hb⟩
    · obtain ⟨r, g1, g2, g3, g4⟩ := id h'
      obtain ⟨b, off, hao, _, _⟩ := g1.open (by omega)
      obtain ⟨tao, tn, tc⟩ := t
      simp only at hao ht0 ht1 hm
      subst hao
      obtain ⟨m, rfl⟩ : ∃ m, tn = m + 2 := ⟨tn - 2, by omega⟩
      subst g4
      refine (div_walk h b off m tc r g1 g2 g3 hn (by omega) hxy).mono ?_
      rintro e w' ⟨u, v, rfl, hu, hv, hb⟩
      exact ⟨u, v, rfl, hu, hv, hu.n_le h (Nat.div_le_self _ _), hv.n_le h (Nat.mod_le _ _), hv.n_le h' (Nat.le_of_lt (Nat.mod_lt _ hy)), hb⟩

/-- Both numbers, on their way down. -/
def GcdRel (w : World) (G B : Nat) (k : Nat) (wr : World) : Prop := ∃ (sa sb : Sl) (a : Nat),
  wr.heap[w.heap.size]? = some (.cells #[.slice sa.ao sa.n sa.c] 25 (0, 0)) ∧ wr.heap[w.heap.size + 1]? = some (.cells #[.slice sb.ao sb.n sb.c] 25 (0, 0)) ∧
  wr.heap[w.heap.size + 1 + 1]? = some (.cells #[.slice none 0 0] 25 (0, 0)) ∧ NatS wr sa a ∧ NatS wr sb k ∧ Nat.gcd a k = G ∧ sa.n ≤ B ∧ sb.n ≤ B ∧ Below w.heap.size w wr

set_option maxHeartbeats 1600000 in
theorem gcd_spec {w : World} {s t : Sl} {x y : Nat} (h : NatS w s x) (h' : NatS w t y) (hn : s.n ≤ 100000000000) (hm : t.n ≤ 100000000000) :
    Calls Tryz.prog 97 #[.agg #[.slice s.ao s.n s.c], .agg #[.slice t.ao t.n t.c]] w fun e w' =>
      ∃ u : Sl, e = .returned (.agg #[.slice u.ao u.n u.c]) ∧ NatS w' u (Nat.gcd x y) ∧ u.n ≤ max s.n t.n ∧ Below w.heap.size w w' := by
  have hE := ents3 w (.cells #[.slice s.ao s.n s.c] 25) (.cells #[.slice t.ao t.n t.c] 25) (.cells #[.slice none 0 0] 25)
  have hbx : Below w.heap.size w _ := (((Below.refl w.heap.size w).alloc (Nat.le_refl _) (.cells #[.slice s.ao s.n s.c] 25)).alloc (by simp) (.cells #[.slice t.ao t.n t.c] 25)).alloc (by simp; omega) (.cells #[.slice none 0 0] 25)
  have hinit : GcdRel w (Nat.gcd x y) (max s.n t.n) y _ := ⟨s, t, x, hE.1, hE.2.1, hE.2.2.1, h.up hbx, h'.up hbx, rfl, by omega, by omega, hbx⟩
  have hB : max s.n t.n ≤ 100000000000 := by omega
  generalize max s.n t.n = B at *
  clear hE hbx
  go_enter Tryz.func97, Tryz.ntmps97
  go_wp2
  go_loopg [8] y (fun k _ wr => GcdRel w (Nat.gcd x y) B k wr)
  case atStart => exact hinit
  case round =>
    obtain ⟨sa, sb, a, hE1, hE2, hE3, ha, hb, hg, hna, hnb, hbl⟩ := hrel
    have hA := ent_cell hE1 0
    have hC := ent_cell hE2 0
    have hws : w.heap.size + 1 + 1 < wr.heap.size := ent_lt hE3
    have HG := Lib.hid hg; clear hg
    by_cases h0 : 0 < sb.n
    · have hk0 : 0 < gk := by have := hb.zero_iff; omega
      go_wp2_with (go_at_call 111; refine (div_spec ha hb (by omega) (by omega) hk0).mono ?_; rintro e w2 ⟨u, v, rfl, hu, hv, hun, hvn, hvn2, hb2⟩; have hF1 := ent_up hb2 hE1; have hF2 := ent_up hb2 hE2; have hF3 := ent_up hb2 hE3; clear hA hC)
      have hbX : Below w2.heap.size w2 ((w2.alloc (.cells #[.slice u.ao u.n u.c] 25)).alloc (.cells #[.slice v.ao v.n v.c] 25)) := ((Below.refl _ _).alloc (Nat.le_refl _) _).alloc (by simp) _
      have hX := ents2 w2 (.cells #[.slice u.ao u.n u.c] 25) (.cells #[.slice v.ao v.n v.c] 25)
      have K1 := ent_up hbX hF1
      have K2 := ent_up hbX hF2
      have K3 := ent_up hbX hF3
      have hv' := hv.up hbX
      have hb' := (hb.up hb2).up hbX
      have hblX : Below w.heap.size w ((w2.alloc (.cells #[.slice u.ao u.n u.c] 25)).alloc (.cells #[.slice v.ao v.n v.c] 25)) := (hbl.trans (hb2.mono hbl.size)).trans (hbX.mono (by have := hbl.size; have := hb2.size; omega))
      have hw2 : w.heap.size + 1 < w2.heap.size := by have := hb2.size; omega
      have hcX := ent_cell hX.2.1 0
      generalize hXd : ((w2.alloc (.cells #[.slice u.ao u.n u.c] 25)).alloc (.cells #[.slice v.ao v.n v.c] 25)) = X at *
      have hA := ent_cell K1 0
      have hAf := ent_frozen K1 0
      have hC := ent_cell K2 0
      have hCf := ent_frozen K2 0
      clear hXd hX hbX hE1 hE2 hE3 hF1 hF2 hF3 ha
      go_region
      all_goals (
        go_wp2
        go_roundg (a % gk)
        case measure => exact Nat.mod_lt _ hk0
        case rel =>
          refine ⟨sb, v, gk, ?_, ?_, ?_, ?_, ?_, ?_, hnb, by omega, ?_⟩
          · exact ent_set_other (ent_set K1 _) (by simp) _
          · exact ent_set (ent_set_other K2 (by simp) _) _
          · exact ent_set_other (ent_set_other K3 (by simp; omega) _) (by simp) _
          · exact (hb'.kp ((Kp.refl _).setCell K1 (by decide) _)).kp ((Kp.refl _).setCell (ent_set_other K2 (by simp) _) (by decide) _)
          · exact (hv'.kp ((Kp.refl _).setCell K1 (by decide) _)).kp ((Kp.refl _).setCell (ent_set_other K2 (by simp) _) (by decide) _)
          · rw [Nat.gcd_comm, ← Nat.gcd_rec, Nat.gcd_comm]; exact HG.out
          · exact (hblX.drew.setCell (by simp) _).setCell (by simp) _)
    · have hk0 : gk = 0 := by have := hb.zero_iff; omega
      subst hk0
      have hR := ent_cell hE3 0
      have hRf := ent_frozen hE3 0
      go_wp2
      refine bodyPost_ret (v := .agg #[.slice sa.ao sa.n sa.c]) (by simp [results, Tryz.results97, go_sem, hR]) rfl ⟨sa, rfl, ?_, hna, hbl.setCell (by simp; omega) _⟩
      have := HG.out
      rw [Nat.gcd_zero_right] at this
      rw [← this]
      exact ha.kp ((Kp.refl _).setCell hE3 (by decide) _)

end Go.Proofs.YtlpfkbkpnljieaaGreat

namespace Go.Proofs.YtlpfkbkpnljieaaGreat
open Go.RowKit

/-- The bytes of a text, as numbers. -/
def bs (s : ByteArray) : List Nat := s.data.toList.map fun b => b.toNat

theorem parse_long (s : ByteArray) (w : World) (h : 4096 < s.size) (h2 : s.size ≤ 9223372036854775807) :
    Calls Tryz.prog 49 #[.string s] w fun e w' => e = .returned (.tuple #[.agg #[.slice none 0 0], .int .i64 2]) ∧ Below w.heap.size w w' := by
  have hl : (4096 : Int) < (s.size : Int) := by omega
  have hE := ents1 w (.cells #[.slice none 0 0] 25)
  have hbx : Below w.heap.size w _ := (Below.refl w.heap.size w).alloc (Nat.le_refl _) (.cells #[.slice none 0 0] 25)
  go_enter Tryz.func49, Tryz.ntmps49
  go_wp2
  exact bodyPost_ret (v := .tuple #[.agg #[.slice none 0 0], .int .i64 2]) (by simp [results, Tryz.results49, go_sem]) rfl ⟨rfl, hbx⟩

theorem parse_empty (s : ByteArray) (w : World) (h : s.size = 0) :
    Calls Tryz.prog 49 #[.string s] w fun e w' => e = .returned (.tuple #[.agg #[.slice none 0 0], .int .i64 3]) ∧ Below w.heap.size w w' := by
  have hs : s = ⟨#[]⟩ := by
    obtain ⟨d⟩ := s
    have : d.size = 0 := h
    simp at this
    rw [this]
  subst hs
  have hbx : Below w.heap.size w _ := (Below.refl w.heap.size w).alloc (Nat.le_refl _) (.cells #[.slice none 0 0] 25)
  go_enter Tryz.func49, Tryz.ntmps49
  go_wp2
  exact bodyPost_ret (v := .tuple #[.agg #[.slice none 0 0], .int .i64 3]) (by simp [results, Tryz.results49, go_sem]) rfl ⟨rfl, hbx⟩

theorem parse_zero (s : ByteArray) (w : World) (h : 1 < s.size) (h2 : s.size ≤ 4096) (h0 : (s[0]'(by omega)).toNat = 48) :
    Calls Tryz.prog 49 #[.string s] w fun e w' => e = .returned (.tuple #[.agg #[.slice none 0 0], .int .i64 3]) ∧ Below w.heap.size w w' := by
  have hl : (1 : Int) < (s.size : Int) := by omega
  have hl2 : decide ((4096 : Int) < (s.size : Int)) = false := by simp; omega
  have hne : s.toList.isEmpty = false := by
    rw [Lib.toList_data]
    have : s.data.toList.length = s.size := by simp
    cases hq : s.data.toList with
    | nil => rw [hq] at this; simp at this; omega
    | cons a l => rfl
  have h48 : (((s[0]'(by omega)).toNat : Int) == 48) = true := by rw [h0]; rfl
  have hbx : Below w.heap.size w _ := (Below.refl w.heap.size w).alloc (Nat.le_refl _) (.cells #[.slice none 0 0] 25)
  go_enter Tryz.func49, Tryz.ntmps49
  go_wp2
  exact bodyPost_ret (v := .tuple #[.agg #[.slice none 0 0], .int .i64 3]) (by simp [results, Tryz.results49, go_sem]) rfl ⟨rfl, hbx⟩

/-- What Parse answers where the text is neither too long nor wrong in front. -/
def ParsePost (w : World) (s : ByteArray) (e : Ending) (w' : World) : Prop :=
  (Digs (bs s) ∧ ∃ u : Sl, e = .returned (.tuple #[.agg #[.slice u.ao u.n u.c], .int .i64 0]) ∧ NatS w' u (dval (bs s)) ∧ u.n ≤ s.size ∧ Below w.heap.size w w') ∨
  (¬ Digs (bs s) ∧ e = .returned (.tuple #[.agg #[.slice none 0 0], .int .i64 3]) ∧ Below w.heap.size w w')

/-- The digits so far. -/
def ParseRel (w : World) (s : ByteArray) (k : Nat) (wr : World) : Prop := ∃ u : Sl,
  wr.heap[w.heap.size]? = some (.cells #[.slice none 0 0] 25 (0, 0)) ∧ wr.heap[w.heap.size + 1]? = some (.cells #[.slice u.ao u.n u.c] 25 (0, 0)) ∧
  NatS wr u (dval ((bs s).take k)) ∧ u.n ≤ k ∧ Digs ((bs s).take k) ∧ Below w.heap.size w wr

theorem times_nat {w : World} {s : Sl} {x m r : Nat} {v : Int} (h : NatS w s x) (hm : m < 4294967296) (hr : r < 4294967296) (hv : v = (r : Int)) (hn : s.n ≤ 1000000000000) :
    Calls Tryz.prog 82 #[.slice s.ao s.n s.c, .int .u32 (m : Int), .int .u32 v] w fun e w' =>
      ∃ (t : Sl) (o : List Nat), e = .returned (.slice t.ao t.n t.c) ∧ IntsAt w' 149 .u32 t o ∧ (∀ d ∈ o, d < 4294967296) ∧ val 4294967296 o = x * m + r ∧ t.n ≤ s.n + 1 ∧ Below w.heap.size w w' := by
  obtain ⟨l, h1, h2, h3, h4⟩ := h
  subst h4
  subst hv
  refine (times_walk s.ao s.n s.c l w m r h1 h2 hm hr hn).mono ?_
  rintro e w' ⟨t, o, k1, k2, k3, k4, k5, k6⟩
  exact ⟨t, o, k1, k2, k3, k5, by have := k2.1; omega, k6⟩

set_option maxHeartbeats 1600000 in
theorem parse_rest (s : ByteArray) (w : World) (h : 0 < s.size) (h2 : s.size ≤ 4096) (h0 : s.size = 1 ∨ (s[0]'h).toNat ≠ 48) :
    Calls Tryz.prog 49 #[.string s] w (ParsePost w s) := by
  have hl2 : decide ((4096 : Int) < (s.size : Int)) = false := by simp; omega
  have hne : s.toList.isEmpty = false := by
    rw [Lib.toList_data]
    have : s.data.toList.length = s.size := by simp
    cases hq : s.data.toList with
    | nil => rw [hq] at this; simp at this; omega
    | cons a l => rfl
  have hE := ents2 w (.cells #[.slice none 0 0] 25) (.cells #[.slice none 0 0] 25)
  have hbx : Below w.heap.size w _ := ((Below.refl w.heap.size w).alloc (Nat.le_refl _) (.cells #[.slice none 0 0] 25)).alloc (by simp) (.cells #[.slice none 0 0] 25)
  have hinit : ParseRel w s 0 _ := ⟨⟨none, 0, 0⟩, hE.1, hE.2.1, NatS.nil _ _ _ (by omega), Nat.le_refl _, by simp [Digs], hbx⟩
  have hz : decide ((1 : Int) < (s.size : Int)) = true → (((s[0]'h).toNat : Int) == 48) = false := by
    intro h1
    simp at h1
    rcases h0 with h0 | h0
    · omega
    · simp; omega
  clear hE
  by_cases h1 : s.size = 1
  · have hl : decide ((1 : Int) < (s.size : Int)) = false := by simp; omega
    clear hz
    go_enter Tryz.func49, Tryz.ntmps49
    go_wp2
    go_loopw [27] (fun i wr => ∃ k : Nat, i = .int .i64 k ∧ k ≤ s.size ∧ ParseRel w s k wr) (fun i _ => s.size - (intOf i).toNat)
    case atStart => exact ⟨0, rfl, Nat.zero_le _, hinit⟩
    case round =>
      obtain ⟨k, rfl, hk, u, hE1, hE2, hu, hun, hdk, hbl⟩ := hrel
      by_cases hlt : k < s.size
      · have hk1 : (k : Int) < (s.size : Int) := by omega
        have hA := ent_cell hE2 0
        have hR := ent_cell hE1 0
        have hRf := ent_frozen hE1 0
        have hDm : (s[k]'hlt).toNat ∈ bs s := by
          unfold bs
          refine List.mem_map.2 ⟨s[k]'hlt, ?_, rfl⟩
          exact List.getElem_mem (l := s.data.toList) (n := k) (by simpa using hlt)
        have hDt : (bs s).take (k + 1) = (bs s).take k ++ [(s[k]'hlt).toNat] := by
          have hkl : k < (bs s).length := by simpa [bs] using hlt
          rw [List.take_succ_eq_append_getElem hkl]
          congr 2
          simp [bs]
          rfl
        obtain ⟨D, hD⟩ : ∃ D : Nat, (s[k]'hlt).toNat = D := ⟨_, rfl⟩
        have hDb : D < 256 := by have := (s[k]'hlt).toNat_lt; omega
        rw [hD] at hDm hDt
        by_cases hlo : D < 48
        · have hloI : (D : Int) < 48 := by omega
          go_wp2
          refine bodyPost_ret (v := .tuple #[.agg #[.slice none 0 0], .int .i64 3]) (by simp [results, Tryz.results49, go_sem, hR]) rfl (.inr ⟨fun hd => ?_, rfl, hbl.setCell (by simp) _⟩)
          have := hd D hDm
          omega
        · have hloI : decide ((D : Int) < 48) = false := by simp; omega
          by_cases hhi : 57 < D
          · have hhiI : (57 : Int) < D := by omega
            go_wp2
            refine bodyPost_ret (v := .tuple #[.agg #[.slice none 0 0], .int .i64 3]) (by simp [results, Tryz.results49, go_sem, hR]) rfl (.inr ⟨fun hd => ?_, rfl, hbl.setCell (by simp) _⟩)
            have := hd D hDm
            omega
          · have hhiI : decide ((57 : Int) < D) = false := by simp; omega
            have hdig : IntKind.u32.wrap (IntKind.u8.wrap ((D : Int) - 48)) = ((D - 48 : Nat) : Int) := by
              rw [IntWalk.u8_in ((D : Int) - 48) (by omega), IntWalk.u32_in ((D : Int) - 48) (by omega)]
              omega
            have hu0 : NatS wr.drew u (dval ((bs s).take k)) := hu
            have hE1d : wr.drew.heap[w.heap.size]? = some (.cells #[.slice none 0 0] 25 (0, 0)) := hE1
            have hE2d : wr.drew.heap[w.heap.size + 1]? = some (.cells #[.slice u.ao u.n u.c] 25 (0, 0)) := hE2
            have hun2 : u.n ≤ 1000000000000 := by omega
            have hD4 : D - 48 < 4294967296 := by omega
            go_upto_region 11 with fail
            go_region_with (first
              | (go_at_call 82; refine (times_nat (r := D - 48) (m := 10) (v := _) hu0 (by decide) hD4 ?_ hun2).mono ?_; with_reducible rfl; rintro e w1 ⟨t, o, rfl, ht, hto, hov, htn, hb1⟩)
              | (go_at_call 81; refine (cut_spec ht hto).mono ?_; rintro e w2 ⟨v, rfl, hv, hvn, hb2⟩; have hF1 := ent_up hb2 (ent_up hb1 hE1d); have hF2 := ent_up hb2 (ent_up hb1 hE2d); have hc := ent_cell hF2 0; have hcf := ent_frozen hF2 0))
            all_goals (
              have hd1 : Digs ((bs s).take (k + 1)) := by
                rw [hDt]
                intro d hd
                rcases List.mem_append.1 hd with hd | hd
                · exact hdk d hd
                · have : d = D := by simpa using hd
                  omega
              have hval : NatS w2 v (dval ((bs s).take (k + 1))) := by
                rw [hDt, dval_append, Nat.mul_comm 10, ← hov]
                exact hv
              have hblw : Below w.heap.size w w2 := (hbl.trans ((below_undrew hb1).mono hbl.size)).trans (hb2.mono (by have := hbl.size; have := (below_undrew hb1).size; omega))
              go_wp2
              go_round
              case rel =>
                refine ⟨k + 1, by simp, by omega, v, ent_set_other hF1 (by simp) _, ent_set hF2 _, hval.kp ((Kp.refl _).setCell hF2 (by decide) _), by omega, hd1, hblw.setCell (by simp) _⟩
              case measure => simp [intOf]; omega)
      · have hkk : k = s.size := by omega
        subst hkk
        have hA := ent_cell hE2 0
        have hAf := ent_frozen hE2 0
        have hR := ent_cell hE1 0
        have hRf := ent_frozen hE1 0
        have hall : (bs s).take s.size = bs s := List.take_of_length_le (by simp [bs])
        rw [hall] at hu hdk
        go_wp2
        exact bodyPost_ret (v := .tuple #[.agg #[.slice u.ao u.n u.c], .int .i64 0]) (by simp [results, Tryz.results49, go_sem, hR]) rfl (.inl ⟨hdk, u, rfl, hu.kp ((Kp.refl _).setCell hE1 (by decide) _), hun, hbl.setCell (by simp) _⟩)
  · have hl : (1 : Int) < (s.size : Int) := by omega
    have h48 := hz (by simp; omega)
    go_enter Tryz.func49, Tryz.ntmps49
    go_wp2
    go_loopw [27] (fun i wr => ∃ k : Nat, i = .int .i64 k ∧ k ≤ s.size ∧ ParseRel w s k wr) (fun i _ => s.size - (intOf i).toNat)
    case atStart => exact ⟨0, rfl, Nat.zero_le _, hinit⟩
    case round =>
      obtain ⟨k, rfl, hk, u, hE1, hE2, hu, hun, hdk, hbl⟩ := hrel
      by_cases hlt : k < s.size
      · have hk1 : (k : Int) < (s.size : Int) := by omega
        have hA := ent_cell hE2 0
        have hR := ent_cell hE1 0
        have hRf := ent_frozen hE1 0
        have hDm : (s[k]'hlt).toNat ∈ bs s := by
          unfold bs
          refine List.mem_map.2 ⟨s[k]'hlt, ?_, rfl⟩
          exact List.getElem_mem (l := s.data.toList) (n := k) (by simpa using hlt)
        have hDt : (bs s).take (k + 1) = (bs s).take k ++ [(s[k]'hlt).toNat] := by
          have hkl : k < (bs s).length := by simpa [bs] using hlt
          rw [List.take_succ_eq_append_getElem hkl]
          congr 2
          simp [bs]
          rfl
        obtain ⟨D, hD⟩ : ∃ D : Nat, (s[k]'hlt).toNat = D := ⟨_, rfl⟩
        have hDb : D < 256 := by have := (s[k]'hlt).toNat_lt; omega
        rw [hD] at hDm hDt
        by_cases hlo : D < 48
        · have hloI : (D : Int) < 48 := by omega
          go_wp2
          refine bodyPost_ret (v := .tuple #[.agg #[.slice none 0 0], .int .i64 3]) (by simp [results, Tryz.results49, go_sem, hR]) rfl (.inr ⟨fun hd => ?_, rfl, hbl.setCell (by simp) _⟩)
          have := hd D hDm
          omega
        · have hloI : decide ((D : Int) < 48) = false := by simp; omega
          by_cases hhi : 57 < D
          · have hhiI : (57 : Int) < D := by omega
            go_wp2
            refine bodyPost_ret (v := .tuple #[.agg #[.slice none 0 0], .int .i64 3]) (by simp [results, Tryz.results49, go_sem, hR]) rfl (.inr ⟨fun hd => ?_, rfl, hbl.setCell (by simp) _⟩)
            have := hd D hDm
            omega
          · have hhiI : decide ((57 : Int) < D) = false := by simp; omega
            have hdig : IntKind.u32.wrap (IntKind.u8.wrap ((D : Int) - 48)) = ((D - 48 : Nat) : Int) := by
              rw [IntWalk.u8_in ((D : Int) - 48) (by omega), IntWalk.u32_in ((D : Int) - 48) (by omega)]
              omega
            have hu0 : NatS wr.drew u (dval ((bs s).take k)) := hu
            have hE1d : wr.drew.heap[w.heap.size]? = some (.cells #[.slice none 0 0] 25 (0, 0)) := hE1
            have hE2d : wr.drew.heap[w.heap.size + 1]? = some (.cells #[.slice u.ao u.n u.c] 25 (0, 0)) := hE2
            have hun2 : u.n ≤ 1000000000000 := by omega
            have hD4 : D - 48 < 4294967296 := by omega
            go_upto_region 11 with fail
            go_region_with (first
              | (go_at_call 82; refine (times_nat (r := D - 48) (m := 10) (v := _) hu0 (by decide) hD4 ?_ hun2).mono ?_; with_reducible rfl; rintro e w1 ⟨t, o, rfl, ht, hto, hov, htn, hb1⟩)
              | (go_at_call 81; refine (cut_spec ht hto).mono ?_; rintro e w2 ⟨v, rfl, hv, hvn, hb2⟩; have hF1 := ent_up hb2 (ent_up hb1 hE1d); have hF2 := ent_up hb2 (ent_up hb1 hE2d); have hc := ent_cell hF2 0; have hcf := ent_frozen hF2 0))
            all_goals (
              have hd1 : Digs ((bs s).take (k + 1)) := by
                rw [hDt]
                intro d hd
                rcases List.mem_append.1 hd with hd | hd
                · exact hdk d hd
                · have : d = D := by simpa using hd
                  omega
              have hval : NatS w2 v (dval ((bs s).take (k + 1))) := by
                rw [hDt, dval_append, Nat.mul_comm 10, ← hov]
                exact hv
              have hblw : Below w.heap.size w w2 := (hbl.trans ((below_undrew hb1).mono hbl.size)).trans (hb2.mono (by have := hbl.size; have := (below_undrew hb1).size; omega))
              go_wp2
              go_round
              case rel =>
                refine ⟨k + 1, by simp, by omega, v, ent_set_other hF1 (by simp) _, ent_set hF2 _, hval.kp ((Kp.refl _).setCell hF2 (by decide) _), by omega, hd1, hblw.setCell (by simp) _⟩
              case measure => simp [intOf]; omega)
      · have hkk : k = s.size := by omega
        subst hkk
        have hA := ent_cell hE2 0
        have hAf := ent_frozen hE2 0
        have hR := ent_cell hE1 0
        have hRf := ent_frozen hE1 0
        have hall : (bs s).take s.size = bs s := List.take_of_length_le (by simp [bs])
        rw [hall] at hu hdk
        go_wp2
        exact bodyPost_ret (v := .tuple #[.agg #[.slice u.ao u.n u.c], .int .i64 0]) (by simp [results, Tryz.results49, go_sem, hR]) rfl (.inl ⟨hdk, u, rfl, hu.kp ((Kp.refl _).setCell hE1 (by decide) _), hun, hbl.setCell (by simp) _⟩)

end Go.Proofs.YtlpfkbkpnljieaaGreat

namespace Go.Proofs.YtlpfkbkpnljieaaGreat
open Go.RowKit

/-- After k swaps. -/
def RevAt (l p : List Nat) (k : Nat) : Prop := p.length = l.length ∧ 2 * k ≤ l.length + 1 ∧ ∀ i, i < l.length → dg p i = if i < k ∨ l.length ≤ i + k then dg l (l.length - 1 - i) else dg l i

theorem RevAt.done {l p : List Nat} {k : Nat} (h : RevAt l p k) (hk : l.length ≤ 2 * k + 1) : p = l.reverse := by
  obtain ⟨h1, h2, h3⟩ := h
  apply List.ext_getElem (by simp [h1])
  intro i hi _
  have hi' : i < l.length := by omega
  have := h3 i hi'
  rw [dg_of hi] at this
  rw [this, List.getElem_reverse]
  split
  · rw [dg_of (by omega)]
  · rename_i hn
    rw [dg_of hi']
    congr 1
    omega

theorem RevAt.step {l p : List Nat} {k : Nat} (h : RevAt l p k) (hk : 2 * k + 1 < l.length) : RevAt l ((p.set k (dg p (l.length - 1 - k))).set (l.length - 1 - k) (dg p k)) (k + 1) := by
  obtain ⟨h1, h2, h3⟩ := h
  refine ⟨by simp [h1], by omega, fun i hi => ?_⟩
  by_cases hj : i = l.length - 1 - k
  · subst hj
    rw [dg_of (by simp; omega), List.getElem_set_self, if_pos (by omega), h3 k (by omega), if_neg (by omega)]
    congr 1
    omega
  · rw [dg_set_ne (by omega)]
    by_cases hik : i = k
    · subst hik
      rw [dg_of (by simp; omega), List.getElem_set_self, if_pos (by omega), h3 _ (by omega), if_neg (by omega)]
    · rw [dg_set_ne (by omega), h3 i hi]
      by_cases hc : i < k ∨ l.length ≤ i + k
      · rw [if_pos hc, if_pos (by omega)]
      · rw [if_neg hc, if_neg (by omega)]

theorem reverse_spec {w : World} {base g n c : Nat} {l : List Nat} (h : Own w base 5 .u8 (.slice (some ⟨g, 0, none⟩) n c) l) (hn : n = l.length) (hl : l.length ≤ 1000000000000000) :
    Calls Tryz.prog 117 #[.slice (some ⟨g, 0, none⟩) n c] w fun e w' =>
      (∃ v, e = .returned v) ∧ Own w' base 5 .u8 (.slice (some ⟨g, 0, none⟩) n c) l.reverse ∧ Below base w w' := by
  subst hn
  have hinit : RevAt l l 0 := ⟨rfl, by omega, fun i hi => by rw [if_neg (by omega)]⟩
  go_enter Tryz.func117, Tryz.ntmps117
  go_wp2
  go_loopw [2, 3] (fun i j wr => ∃ (k : Nat) (p : List Nat), i = .int .i64 k ∧ j = .int .i64 ((l.length : Int) - 1 - k) ∧ RevAt l p k ∧ Own wr base 5 .u8 (.slice (some ⟨g, 0, none⟩) l.length c) p ∧ Below base w wr) (fun i _ _ => l.length - (intOf i).toNat)
  case atStart => exact ⟨0, l, rfl, by simp, hinit, h, Below.refl _ _⟩
  case round =>
    obtain ⟨k, p, rfl, rfl, hp, hown, hbl⟩ := hrel
    by_cases hlt : 2 * k + 1 < l.length
    · have hkj : (k : Int) < (l.length : Int) - 1 - k := by omega
      obtain ⟨J, hJ⟩ : ∃ J : Nat, J = l.length - 1 - k := ⟨_, rfl⟩
      have hJI : (l.length : Int) - 1 - k = (J : Int) := by omega
      rw [hJI] at hkj ⊢
      have hJl : (J : Int) < (l.length : Int) := by omega
      have hkl : (k : Int) < (l.length : Int) := by omega
      obtain ⟨hc1, hf1, _, _⟩ := hown.slot k (by have := hp.1; omega)
      obtain ⟨hc2, hf2, _, _⟩ := hown.slot J (by have := hp.1; omega)
      have hstep := hp.step hlt
      rw [← hJ] at hstep
      have hs1 := hown.store k (dg p J)
      have hs2 := hs1.1.store J (dg p k)
      have hs3 := hown.store J (dg p k)
      have hs4 := hs3.1.store k (dg p J)
      have hne : k ≠ J := by omega
      have hcomm : (p.set J (dg p k)).set k (dg p J) = (p.set k (dg p J)).set J (dg p k) := List.set_comm _ _ (by omega)
      rw [hcomm] at hs4
      generalize dg p k = y at *
      generalize dg p J = z at *
      have HJ := Lib.hid (And.intro hJ hJI)
      have HC := Lib.hid hcomm
      clear hJ hJI hcomm
      go_wp2
      go_region
      all_goals (
        go_wp2
        go_roundw
        case rel =>
          first
            | exact ⟨k + 1, _, by simp, congrArg (Value.int IntKind.i64) (by have := HJ.out.2; push_cast; omega), hstep, hs2.1, (hbl.trans (hs1.2.trans hs2.2)).drew⟩
            | exact ⟨k + 1, _, by simp, congrArg (Value.int IntKind.i64) (by have := HJ.out.2; push_cast; omega), hstep, hs4.1, (hbl.trans (hs3.2.trans hs4.2)).drew⟩
        case measure => simp [intOf]; omega)
    · have hkj : decide ((k : Int) < (l.length : Int) - 1 - k) = false := by simp; omega
      have hpe := hp.done (by omega)
      subst hpe
      go_wp2

      exact bodyPost_end (v := .tuple #[]) (by simp [results, Tryz.results117, go_sem]) rfl ⟨⟨_, rfl⟩, hown, hbl⟩

end Go.Proofs.YtlpfkbkpnljieaaGreat

namespace Go.Proofs.YtlpfkbkpnljieaaGreat
open Go.RowKit

/-- The text of bytes' numbers. -/
def txt (l : List Nat) : ByteArray := ⟨(l.map fun d => UInt8.ofNat d).toArray⟩

theorem conv_bytes {w : World} {base g n c : Nat} {l : List Nat} (h : Own w base 5 .u8 (.slice (some ⟨g, 0, none⟩) n c) l) (hn : n = l.length) (hd : ∀ d ∈ l, d < 256) :
    (convert 177 9 (.slice (some ⟨g, 0, none⟩) n c)).run Tryz.prog w = .ok (.string (txt l)) w := by
  subst hn
  have := run_convert_bytes_back (P := Tryz.prog) w 177 9 5 ⟨g, 0, none⟩ c (l.map fun d => UInt8.ofNat d) Tryz.underlying177 Tryz.underlying5 Tryz.underlying9 ?_
  · simpa [txt] using this
  · intro j hj
    have hj' : j < l.length := by simpa using hj
    have h1 := (h.slot j hj').1
    rw [dg_of hj'] at h1
    have : l[j] < 256 := hd _ (List.getElem_mem hj')
    have ha : (⟨g, 0, none⟩ : Addr).add j = ⟨g, j, none⟩ := by
      unfold Addr.add
      split
      · rename_i h0; subst h0; rfl
      · simp
    rw [ha, h1]
    simp
    omega

theorem NatS.lt_pow {w : World} {s : Sl} {x : Nat} (h : NatS w s x) : x < 4294967296 ^ s.n := by
  obtain ⟨l, h1, h2, h3, h4⟩ := h
  rw [← h4, h1.1]
  exact val_lt _ _ h2

theorem pow_ten (n : Nat) : 4294967296 ^ n ≤ 10 ^ (10 * n) := by
  rw [Nat.pow_mul]
  exact Nat.pow_le_pow_left (by omega) n

theorem by9 {w : World} {s : Sl} {y : Nat} (h : NatS w s y) (hn : s.n ≤ 1000000000000) :
    Calls Tryz.prog 116 #[.slice s.ao s.n s.c, .int .u32 1000000000] w fun e w' =>
      ∃ (t : Sl) (o : List Nat) (r : Nat), e = .returned (.tuple #[.slice t.ao t.n t.c, .int .u32 (r : Int)]) ∧ IntsAt w' 149 .u32 t o ∧ (∀ d ∈ o, d < 4294967296) ∧ t.n = s.n ∧ y = val 4294967296 o * 1000000000 + r ∧ r < 1000000000 ∧ Below w.heap.size w w' := by
  obtain ⟨l, h1, h2, h3, h4⟩ := h
  refine (by_walk s.ao s.n s.c l w 1000000000 h1 h2 (by omega) (by omega) hn).mono ?_
  rintro e w' ⟨t, o, r, rfl, g1, g2, g3, g4, g5, g6⟩
  exact ⟨t, o, r, rfl, g1, g2, by rw [g1.1, g3], by rw [← h4, g4, Nat.mul_comm], g5, g6⟩

theorem field_nat (ao : Option Addr) (n c : Nat) (w : World) : (Instr.field 25 (.agg #[.slice ao n c]) 0).run Tryz.prog w = .ok (.slice ao n c) w := by kernel_rfl

/-- All rows of limbs stay as they were. -/
def KpT (T : TypeId) (w w' : World) : Prop := ∀ (b : Nat) (cur : Array Value) (T' : TypeId) (f : Nat × Nat), T' ≠ T → w.heap[b]? = some (Obj.cells cur T' f) → w'.heap[b]? = some (Obj.cells cur T' f)

theorem NatS.kpu {w w' : World} {s : Sl} {x : Nat} (h : NatS w s x) (hk : KpT 5 w w') : NatS w' s x := by
  obtain ⟨l, ⟨h1, h2, h3, h4⟩, h5⟩ := h
  refine ⟨l, ⟨h1, h2, h3, fun hp => ?_⟩, h5⟩
  obtain ⟨b, off, cur, ha, hb, hr⟩ := h4 hp
  exact ⟨b, off, cur, ha, hk _ _ _ _ (by decide) hb, hr⟩

theorem wpList_pushK {t T : TypeId} {k : IntKind} {bytes : Nat} (hT : RowTy t T k bytes) (w0 : World) {ops : Array Oper} {rest : List Oper} {o : Oper} {a : Act} {Q : Exit → Act → World → Prop}
    (hg : o.guard = none) (s x : Operand) (hop : o.op = Op.call { callee := Callee.builtin Builtin.append, args := #[s, x], argTypes := #[t, t] })
    (base : Nat) (v : Value) (l : List Nat) (z : Int) (d : Nat) (hs : a.eval s = v) (hx : a.eval x = .slice (some ⟨w0.heap.size, 0, none⟩) 1 1)
    (hown : Own w0 base T k v l) (hz : z = (d : Int)) (hlen : (l.length + 1) * bytes ≤ 140737488355328) (hlm : l.length + 1 ≤ maxLen) (hbase : base ≤ w0.heap.size)
    (hK : ∀ v' w', Own w' base T k v' (l ++ [d]) → Below base w0 w' → KpT T w0 w' → wpList Tryz.prog ops Q rest (a.put o.dst v') w') :
    wpList Tryz.prog ops Q (o :: rest) a (w0.alloc (.cells #[.int k z] T)) := by
  obtain ⟨i0, hi, hz0, hz1, hz2⟩ := info_parts hT.inf
  refine wpList_append_own _ hg s x t hop base T i0 (.int k 0) 1 bytes hT.ut hi hz0 hz1 hz2 rfl (by decide) v l.length _ hs (hown.alloc _) ⟨w0.heap.size, 0, none⟩ 1 1 [.int k z] hx rfl (cell_one_new _ _ _) ?_ hlm hlen (by simp; omega) ?_
  · intro u hu
    simp at hu
    subst hu
    rfl
  · intro v' w' h1 h2 _
    refine hK v' w' ?_ ?_ ?_
    · unfold Own
      subst hz
      simpa using h1
    · exact ((Below.refl base w0).alloc hbase _).grown h2 (by simp; omega) (fun g hgv => (hown.lt g hgv).1)
    · intro b cur T' f hne hb
      have hb' := ent_old hb (.cells #[.int k z] T)
      have hlt := ent_lt hb'
      rw [h2.block b hlt ?_]
      · exact hb'
      · intro e
        obtain ⟨_, h4⟩ := hown
        rcases h4 with ⟨rfl, _⟩ | ⟨g, cap, cur', rfl, _, hg, _⟩
        · simp [Value.ownBlock] at e
        · simp [Value.ownBlock] at e
          subst e
          rw [hg] at hb
          simp at hb
          exact hne hb.2.1.symm

/-- What is written already, and what is still to come. -/
def TextAt (x z : Nat) (o : List Nat) : Prop := o ++ (dl z).map (· + 48) = (dl x).map (· + 48)

theorem TextAt.len {x z : Nat} {o : List Nat} (h : TextAt x z o) : o.length ≤ (dl x).length := by
  have := congrArg List.length h
  simp at this
  omega

theorem TextAt.step {x y i r : Nat} {o : List Nat} (h : TextAt x (y * 10 ^ (9 - i) + r) o) (hi : i < 9) (hr : r < 10 ^ (9 - i)) (hn : r ≠ 0 ∨ y ≠ 0) :
    TextAt x (y * 10 ^ (9 - (i + 1)) + r / 10) (o ++ [r % 10 + 48]) ∧ r / 10 < 10 ^ (9 - (i + 1)) := by
  obtain ⟨h1, h2⟩ := text_step hi hr hn
  refine ⟨?_, h2⟩
  unfold TextAt at *
  rw [h1] at h
  simpa using h

theorem TextAt.room {x z : Nat} {o : List Nat} (h : TextAt x z o) (hz : z ≠ 0) : o.length + 1 ≤ (dl x).length := by
  have := congrArg List.length h
  rw [dl_pos hz] at this
  simp at this
  omega

theorem dl_bound {w : World} {s : Sl} {x : Nat} (h : NatS w s x) : (dl x).length ≤ 10 * s.n :=
  dl_len _ _ (Nat.lt_of_lt_of_le h.lt_pow (pow_ten _))

/-- The outer loop. -/
def TextRel (w : World) (x N : Nat) (y : Nat) (ov lv : Value) (wr : World) : Prop := ∃ (t : Sl) (o : List Nat),
  lv = .slice t.ao t.n t.c ∧ NatS wr t y ∧ t.n ≤ N ∧ Own wr w.heap.size 5 .u8 ov o ∧ TextAt x y o ∧ Below w.heap.size w wr

/-- The inner loop. -/
def TextIn (w : World) (x Y : Nat) (t : Sl) (ov rv iv : Value) (wr : World) : Prop := ∃ (i r : Nat) (o : List Nat),
  iv = .int .i64 i ∧ rv = .int .u32 r ∧ i ≤ 9 ∧ r < 10 ^ (9 - i) ∧ r < 4294967296 ∧ NatS wr t Y ∧ Own wr w.heap.size 5 .u8 ov o ∧ TextAt x (Y * 10 ^ (9 - i) + r) o ∧ Below w.heap.size w wr

set_option maxHeartbeats 800000 in
theorem text_pos {w : World} {s : Sl} {x : Nat} (h : NatS w s x) (hn : s.n ≤ 1000000000000) (h0 : 0 < x) :
    Calls Tryz.prog 101 #[.agg #[.slice s.ao s.n s.c]] w fun e w' => e = .returned (.string (txt (dec x))) ∧ Below w.heap.size w w' := by
  have hsn : 0 < s.n := by have := h.zero_iff; omega
  have hlen := dl_bound h
  have hinit : TextRel w x s.n x (.slice none 0 0) (.slice s.ao s.n s.c) (w.alloc (.cells #[.slice s.ao s.n s.c] 25)) :=
    ⟨s, [], rfl, h.up ((Below.refl _ _).alloc (Nat.le_refl _) _), Nat.le_refl _, Own.nil _ _ _ _, by simp [TextAt], (Below.refl _ _).alloc (Nat.le_refl _) _⟩
  generalize hNN : s.n = N at *
  have hN0 : ((N : Int) == 0) = false := by simp; omega
  go_enter Tryz.func101, Tryz.ntmps101
  go_wp2
  go_loopg [3, 4] x (fun k ov lv wr => TextRel w x N k ov lv wr)
  case atStart => exact hinit
  case round =>
    obtain ⟨t, o, rfl, ht, htn, hown, hat, hbl⟩ := hrel
    by_cases hp : 0 < t.n
    · have hk0 : 0 < gk := by have := ht.zero_iff; omega
      go_wp2_with fail
      refine (by9 ht (by omega)).mono ?_
      rintro e w1 ⟨q, qo, r, rfl, hq, hqo, hqn, hqe, hr, hb1⟩
      have HQE := Lib.hid hqe; clear hqe
      have HQN := Lib.hid hqn; clear hqn
      go_wp2_with fail
      refine (cut_spec hq hqo).mono ?_
      rintro e w2 ⟨v, rfl, hv, hvn, hb2⟩
      have hfd := fun w => field_nat v.ao v.n v.c w
      go_upto_block 2 with fail
      clear hfd
      have hvN : v.n ≤ N := by have := HQN.out; omega
      obtain ⟨Y, hY⟩ : ∃ Y, Y = val 4294967296 qo := ⟨_, rfl⟩
      rw [← hY] at hv
      have hb12 := hb1.trans (hb2.mono hb1.size)
      have hin : TextIn w x Y v u3 (.int .u32 r) (.int .i64 0) w2 := by
        refine ⟨0, r, o, rfl, rfl, by omega, hr, by omega, hv, hown.below hb12 (Nat.le_refl _), ?_, hbl.trans (hb12.mono hbl.size)⟩
        have := HQE.out
        rw [← hY] at this
        rw [show 10 ^ (9 - 0) = 1000000000 by rfl, ← this]
        exact hat
      have hYlt : Y < gk := by have := HQE.out; omega
      clear hY HQE HQN hq hqo hb1 hb2 hb12 hown hat hbl hr ht htn
      · go_wp2_with fail
        go_loopw [3, 6, 24] (fun ov rv iv wr => TextIn w x Y v ov rv iv wr) (fun _ _ iv _ => (9 - intOf iv).toNat)
        case atStart => exact hin
        case round =>
          clear hin
          obtain ⟨i, r, o, rfl, rfl, hi, hr, hr4, hv, hown, hat, hbl⟩ := hrel
          by_cases hi9 : i < 9
          · have hi9I : (i : Int) < 9 := by omega
            by_cases hz : r = 0 ∧ Y = 0
            · obtain ⟨hz1, hz2⟩ := hz
              have hrI : ((r : Int) == 0) = true := by rw [hz1]; rfl
              have hvn0 : v.n = 0 := by have := hv.zero_iff; omega
              have hat' : TextAt x Y o := by
                rw [hz2, hz1] at hat
                rw [hz2]
                simpa using hat
              have HV := Lib.hid hvn0
              have hvI : ((v.n : Int) == 0) = true := by simp; omega
              clear hvn0 hz1 hz2 hat hr
              go_wp2
              go_roundg Y
              case measure => exact hYlt
              case rel => exact ⟨v, o, rfl, hv, hvN, hown, hat', hbl⟩
            · have hne : r ≠ 0 ∨ Y ≠ 0 := by omega
              have hst := hat.step hi9 hr hne
              have hroom := hat.room (by
                have := Nat.pow_pos (n := 9 - i) (show 0 < 10 by omega)
                rcases hne with h | h
                · omega
                · have := Nat.mul_pos (Nat.pos_of_ne_zero h) this
                  omega)
              have hY0 : v.n = 0 ↔ Y = 0 := hv.zero_iff.symm
              by_cases hr0 : r = 0
              · have hrI : ((r : Int) == 0) = true := by simp; omega
                have hvI : ((v.n : Int) == 0) = false := by simp; omega
                clear hat hr hz hne hY0 hr0
                have hmod : IntKind.u8.wrap (48 + (r : Int) % 10) = ((r % 10 + 48 : Nat) : Int) := by
                  rw [IntWalk.u8_in _ (by omega)]; omega
                go_wp2_with (at_builtin; refine wpList_pushK rowByte _ rfl _ _ rfl w.heap.size u3 o _ (r % 10 + 48) rfl rfl hown ?hza ?hla ?hma ?hba ?_)
                case hza => first | rfl | exact hmod | omega
                case hla => omega
                case hma => unfold maxLen; omega
                case hba => exact hbl.size
                intro v' w' hown' hb' hk'
                have hv' := hv.kpu hk'
                clear hmod
                go_wp2
                go_roundw
                case rel => exact ⟨i + 1, r / 10, o ++ [r % 10 + 48], by go_num, by go_num, by omega, hst.2, by omega, hv', hown', hst.1, hbl.trans hb'⟩
                case measure => simp [intOf]; omega
              · have hrI : ((r : Int) == 0) = false := by simp; omega
                clear hat hr hz hne hY0 hr0
                have hmod : IntKind.u8.wrap (48 + (r : Int) % 10) = ((r % 10 + 48 : Nat) : Int) := by
                  rw [IntWalk.u8_in _ (by omega)]; omega
                go_wp2_with (at_builtin; refine wpList_pushK rowByte _ rfl _ _ rfl w.heap.size u3 o _ (r % 10 + 48) rfl rfl hown ?hzb ?hlb ?hmb ?hbb ?_)
                case hzb => first | rfl | exact hmod | omega
                case hlb => omega
                case hmb => unfold maxLen; omega
                case hbb => exact hbl.size
                intro v' w' hown' hb' hk'
                have hv' := hv.kpu hk'
                clear hmod
                go_wp2
                go_roundw
                case rel => exact ⟨i + 1, r / 10, o ++ [r % 10 + 48], by go_num, by go_num, by omega, hst.2, by omega, hv', hown', hst.1, hbl.trans hb'⟩
                case measure => simp [intOf]; omega
          · have hi9 : i = 9 := by omega
            have hr0 : r = 0 := by
              rw [hi9] at hr
              simpa using hr
            have hat' : TextAt x Y o := by
              rw [hr0, hi9] at hat
              simpa using hat
            have hi9I : decide ((i : Int) < 9) = false := by simp; omega
            clear hat hr hr0 hi9
            go_wp2
            go_roundg Y
            case measure => exact hYlt
            case rel => exact ⟨v, o, rfl, hv, hvN, hown, hat', hbl⟩
    · have hk0 : gk = 0 := by have := ht.zero_iff; omega
      subst hk0
      have ho : o = (dl x).map (· + 48) := by
        have := hat
        unfold TextAt at this
        rw [dl_zero] at this
        simpa using this
      have hpI : decide (0 < t.n) = false := by simp; omega
      have hdec : dec x = o.reverse := by rw [ho]; unfold dec; rw [if_neg (by omega)]
      have hox : ∀ d ∈ o.reverse, d < 256 := by rw [← hdec]; exact dec_lt x
      have hol : o.length ≤ 1000000000000000 := by rw [ho]; simp; omega
      have hone : o ≠ [] := by rw [ho]; simpa using dl_ne (by omega)
      obtain ⟨g, c, rfl, hgc⟩ : ∃ g c, u3 = .slice (some ⟨g, 0, none⟩) o.length c ∧ o.length ≤ c := by
        obtain ⟨_, h4⟩ := hown
        rcases h4 with ⟨rfl, h4⟩ | ⟨g, cap, cur', rfl, _, hg, hc, _⟩
        · exact absurd (List.eq_nil_of_length_eq_zero h4) hone
        · exact ⟨g, cap, rfl, hc⟩
      have HD := Lib.hid hdec
      have HO := Lib.hid ho
      clear hdec ho hat hone
      go_wp2_with (go_at_call 117; refine (reverse_spec hown rfl hol).mono ?_; rintro e w1 ⟨⟨v, rfl⟩, hown1, hb1⟩; have hcv := conv_bytes hown1 (by simp) hox)
      go_ret
      exact ⟨by rw [HD.out]; rfl, hbl.trans hb1⟩

theorem text_zero {w : World} {s : Sl} (h0 : s.n = 0) :
    Calls Tryz.prog 101 #[.agg #[.slice s.ao s.n s.c]] w fun e w' => e = .returned (.string (txt (dec 0))) ∧ Below w.heap.size w w' := by
  rw [h0]
  go_enter Tryz.func101, Tryz.ntmps101
  go_wp2
  go_ret
  exact ⟨rfl, (Below.refl _ _).alloc (Nat.le_refl _) _⟩

/-- The text of a number. -/
theorem text_spec {w : World} {s : Sl} {x : Nat} (h : NatS w s x) (hn : s.n ≤ 1000000000000) :
    Calls Tryz.prog 101 #[.agg #[.slice s.ao s.n s.c]] w fun e w' => e = .returned (.string (txt (dec x))) ∧ Below w.heap.size w w' := by
  by_cases hx : 0 < x
  · exact text_pos h hn hx
  · obtain rfl : x = 0 := by omega
    exact text_zero (h.zero_iff.1 rfl)

end Go.Proofs.YtlpfkbkpnljieaaGreat
