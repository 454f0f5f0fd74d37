
/- nat: Div whole; Gcd. nat: Parse. slices: Reverse of bytes. nat: Text. -/
import Derived.Test.YtaafmafdnnjmdaaProg
import Derived.Test.YtaafmafdnnjmdaaNatV
import Derived.Test.YtaafmafdnnjmdaaNatM
import Derived.Deep.LoopGhost
import Derived.Test.YtaafmafdnnjmdaaNatU
import Derived.Test.YtaafmafdnnjmdaaMaths
import Derived.Deep.DeepCutAuto
import Derived.Lib.Strings
import Derived.Deep.RegionWith
import Derived.Test.YtaafmafdnnjmdaaBase
import Derived.Lib.Hide
import Derived.Laws.IdiomStrings
import Derived.Deep.CutBlock
set_option linter.unusedSimpArgs false
set_option linter.unusedVariables false
namespace Go.Proofs.Ytaafmafdnnjmdaa
open Go.RowKit

/-- The quotient and the rest. -/
theorem div_spec {w : World} {s t : Sl} {x y : Nat} (h : NatS w s x) (h' : NatS w t y) (hn : s.n ≤ 100000000000) (hm : t.n ≤ 100000000000) (hy : 0 < y) :
    Calls Try.prog 116 #[.agg #[.slice s.ao s.n s.c], .agg #[.slice t.ao t.n t.c]] w fun e w' =>
      ∃ u v : Sl, e = .returned (.tuple #[.agg #[.slice u.ao u.n u.c], .agg #[.slice v.ao v.n v.c], .int .i64 0]) ∧ NatS w' u (x / y) ∧ NatS w' v (x % y) ∧ u.n ≤ s.n ∧ v.n ≤ s.n ∧ v.n ≤ t.n ∧ Below w.heap.size w w' := by
  rcases Nat.lt_or_ge x y with hxy | hxy
  · refine (div_less h h' (by omega) (by omega) hxy).mono ?_
    rintro e w' ⟨rfl, hb⟩
    have e1 : x / y = 0 := Nat.div_eq_of_lt hxy
    have e2 : x % y = x := Nat.mod_eq_of_lt hxy
    rw [e1, e2]
    exact ⟨⟨none, 0, 0⟩, s, rfl, NatS.nil _ _ _ (by omega), h.up hb, Nat.zero_le _, Nat.le_refl _, h.n_le h' (by omega), hb⟩
  · have ht0 : t.n ≠ 0 := by
      have := h'.zero_iff
      omega
    by_cases ht1 : t.n = 1
    · refine (div_one h h' (by omega) ht1 hxy).mono ?_
      rintro e w' ⟨u, v, rfl, hu, hv, _, _, hb⟩
      exact ⟨u, v, rfl, hu, hv, hu.n_le h (Nat.div_le_self _ _), hv.n_le h (Nat.mod_le _ _), hv.n_le h' (Nat.le_of_lt (Nat.mod_lt _ hy)), hb⟩
    · obtain ⟨r, g1, g2, g3, g4⟩ := id h'
      obtain ⟨b, off, hao, _, _⟩ := g1.open (by omega)
      obtain ⟨tao, tn, tc⟩ := t
      simp only at hao ht0 ht1 hm
      subst hao
      obtain ⟨m, rfl⟩ : ∃ m, tn = m + 2 := ⟨tn - 2, by omega⟩
      subst g4
      refine (div_walk h b off m tc r g1 g2 g3 hn (by omega) hxy).mono ?_
      rintro e w' ⟨u, v, rfl, hu, hv, hb⟩
      exact ⟨u, v, rfl, hu, hv, hu.n_le h (Nat.div_le_self _ _), hv.n_le h (Nat.mod_le _ _), hv.n_le h' (Nat.le_of_lt (Nat.mod_lt _ hy)), hb⟩

/-- Both numbers, on their way down. -/
def GcdRel (w : World) (G B : Nat) (k : Nat) (wr : World) : Prop := ∃ (sa sb : Sl) (a : Nat),
  wr.heap[w.heap.size]? = some (.cells #[.slice sa.ao sa.n sa.c] 44 (0, 0)) ∧ wr.heap[w.heap.size + 1]? = some (.cells #[.slice sb.ao sb.n sb.c] 44 (0, 0)) ∧
  wr.heap[w.heap.size + 1 + 1]? = some (.cells #[.slice none 0 0] 44 (0, 0)) ∧ NatS wr sa a ∧ NatS wr sb k ∧ Nat.gcd a k = G ∧ sa.n ≤ B ∧ sb.n ≤ B ∧ Below w.heap.size w wr

set_option maxHeartbeats 1600000 in
theorem gcd_spec {w : World} {s t : Sl} {x y : Nat} (h : NatS w s x) (h' : NatS w t y) (hn : s.n ≤ 100000000000) (hm : t.n ≤ 100000000000) :
    Calls Try.prog 109 #[.agg #[.slice s.ao s.n s.c], .agg #[.slice t.ao t.n t.c]] w fun e w' =>
      ∃ u : Sl, e = .returned (.agg #[.slice u.ao u.n u.c]) ∧ NatS w' u (Nat.gcd x y) ∧ u.n ≤ max s.n t.n ∧ Below w.heap.size w w' := by
  have hE := ents3 w (.cells #[.slice s.ao s.n s.c] 44) (.cells #[.slice t.ao t.n t.c] 44) (.cells #[.slice none 0 0] 44)
  have hbx : Below w.heap.size w _ := (((Below.refl w.heap.size w).alloc (Nat.le_refl _) (.cells #[.slice s.ao s.n s.c] 44)).alloc (by simp) (.cells #[.slice t.ao t.n t.c] 44)).alloc (by simp; omega) (.cells #[.slice none 0 0] 44)
  have hinit : GcdRel w (Nat.gcd x y) (max s.n t.n) y _ := ⟨s, t, x, hE.1, hE.2.1, hE.2.2.1, h.up hbx, h'.up hbx, rfl, by omega, by omega, hbx⟩
  have hB : max s.n t.n ≤ 100000000000 := by omega
  generalize max s.n t.n = B at *
  clear hE hbx
  go_enter Try.func109, Try.ntmps109
  go_wp2
  go_loopg [8] y (fun k _ wr => GcdRel w (Nat.gcd x y) B k wr)
  case atStart => exact hinit
  case round =>
    obtain ⟨sa, sb, a, hE1, hE2, hE3, ha, hb, hg, hna, hnb, hbl⟩ := hrel
    have hA := ent_cell hE1 0
    have hC := ent_cell hE2 0
    have hws : w.heap.size + 1 + 1 < wr.heap.size := ent_lt hE3
    have HG := Lib.hid hg; clear hg
    by_cases h0 : 0 < sb.n
    · have hk0 : 0 < gk := by have := hb.zero_iff; omega
      go_wp2_with (go_at_call 116; refine (div_spec ha hb (by omega) (by omega) hk0).mono ?_; rintro e w2 ⟨u, v, rfl, hu, hv, hun, hvn, hvn2, hb2⟩; have hF1 := ent_up hb2 hE1; have hF2 := ent_up hb2 hE2; have hF3 := ent_up hb2 hE3; clear hA hC)
      have hbX : Below w2.heap.size w2 ((w2.alloc (.cells #[.slice u.ao u.n u.c] 44)).alloc (.cells #[.slice v.ao v.n v.c] 44)) := ((Below.refl _ _).alloc (Nat.le_refl _) _).alloc (by simp) _
      have hX := ents2 w2 (.cells #[.slice u.ao u.n u.c] 44) (.cells #[.slice v.ao v.n v.c] 44)
      have K1 := ent_up hbX hF1
      have K2 := ent_up hbX hF2
      have K3 := ent_up hbX hF3
      have hv' := hv.up hbX
      have hb' := (hb.up hb2).up hbX
      have hblX : Below w.heap.size w ((w2.alloc (.cells #[.slice u.ao u.n u.c] 44)).alloc (.cells #[.slice v.ao v.n v.c] 44)) := (hbl.trans (hb2.mono hbl.size)).trans (hbX.mono (by have := hbl.size; have := hb2.size; omega))
      have hw2 : w.heap.size + 1 < w2.heap.size := by have := hb2.size; omega
      have hcX := ent_cell hX.2.1 0
      generalize hXd : ((w2.alloc (.cells #[.slice u.ao u.n u.c] 44)).alloc (.cells #[.slice v.ao v.n v.c] 44)) = X at *
      have hA := ent_cell K1 0
      have hAf := ent_frozen K1 0
      have hC := ent_cell K2 0
      have hCf := ent_frozen K2 0
      clear hXd hX hbX hE1 hE2 hE3 hF1 hF2 hF3 ha
      go_region
      all_goals (
        go_wp2
        go_roundg (a % gk)
        case measure => exact Nat.mod_lt _ hk0
        case rel =>
          refine ⟨sb, v, gk, ?_, ?_, ?_, ?_, ?_, ?_, hnb, by omega, ?_⟩
          · exact ent_set_other (ent_set K1 _) (by simp) _
          · exact ent_set (ent_set_other K2 (by simp) _) _
          · exact ent_set_other (ent_set_other K3 (by simp; omega) _) (by simp) _
          · exact (hb'.kp ((Kp.refl _).setCell K1 (by decide) _)).kp ((Kp.refl _).setCell (ent_set_other K2 (by simp) _) (by decide) _)
          · exact (hv'.kp ((Kp.refl _).setCell K1 (by decide) _)).kp ((Kp.refl _).setCell (ent_set_other K2 (by simp) _) (by decide) _)
          · rw [Nat.gcd_comm, ← Nat.gcd_rec, Nat.gcd_comm]; exact HG.out
          · exact (hblX.drew.setCell (by simp) _).setCell (by simp) _)
    · have hk0 : gk = 0 := by have := hb.zero_iff; omega
      subst hk0
      have hR := ent_cell hE3 0
      have hRf := ent_frozen hE3 0
      go_wp2
      refine bodyPost_ret (v := .agg #[.slice sa.ao sa.n sa.c]) (by simp [results, Try.results109, go_sem, hR]) rfl ⟨sa, rfl, ?_, hna, hbl.setCell (by simp; omega) _⟩
      have := HG.out
      rw [Nat.gcd_zero_right] at this
      rw [← this]
      exact ha.kp ((Kp.refl _).setCell hE3 (by decide) _)

end Go.Proofs.Ytaafmafdnnjmdaa

namespace Go.Proofs.Ytaafmafdnnjmdaa
open Go.RowKit

/-- The bytes of a text, as numbers. -/
def bs (s : ByteArray) : List Nat := s.data.toList.map fun b => b.toNat

/-- What Parse answers where the text is neither too long nor wrong in front. -/
def ParsePost (w : World) (s : ByteArray) (e : Ending) (w' : World) : Prop :=
  (Digs (bs s) ∧ ∃ u : Sl, e = .returned (.tuple #[.agg #[.slice u.ao u.n u.c], .int .i64 0]) ∧ NatS w' u (dval (bs s)) ∧ u.n ≤ s.size ∧ Below w.heap.size w w') ∨
  (¬ Digs (bs s) ∧ e = .returned (.tuple #[.agg #[.slice none 0 0], .int .i64 3]) ∧ Below w.heap.size w w')

/-- The digits so far. -/
def ParseRel (w : World) (s : ByteArray) (k : Nat) (wr : World) : Prop := ∃ u : Sl,
  wr.heap[w.heap.size]? = some (.cells #[.slice none 0 0] 44 (0, 0)) ∧ wr.heap[w.heap.size + 1]? = some (.cells #[.slice u.ao u.n u.c] 44 (0, 0)) ∧
  NatS wr u (dval ((bs s).take k)) ∧ u.n ≤ k ∧ Digs ((bs s).take k) ∧ Below w.heap.size w wr

end Go.Proofs.Ytaafmafdnnjmdaa

namespace Go.Proofs.Ytaafmafdnnjmdaa
open Go.RowKit

/-- After k swaps. -/
def RevAt (l p : List Nat) (k : Nat) : Prop := p.length = l.length ∧ 2 * k ≤ l.length + 1 ∧ ∀ i, i < l.length → dg p i = if i < k ∨ l.length ≤ i + k then dg l (l.length - 1 - i) else dg l i

theorem RevAt.done {l p : List Nat} {k : Nat} (h : RevAt l p k) (hk : l.length ≤ 2 * k + 1) : p = l.reverse := by
  obtain ⟨h1, h2, h3⟩ := h
  apply List.ext_getElem (by simp [h1])
  intro i hi _
  have hi' : i < l.length := by omega
  have := h3 i hi'
  rw [dg_of hi] at this
  rw [this, List.getElem_reverse]
  split
  · rw [dg_of (by omega)]
  · rename_i hn
    rw [dg_of hi']
    congr 1
    omega

theorem RevAt.step {l p : List Nat} {k : Nat} (h : RevAt l p k) (hk : 2 * k + 1 < l.length) : RevAt l ((p.set k (dg p (l.length - 1 - k))).set (l.length - 1 - k) (dg p k)) (k + 1) := by
  obtain ⟨h1, h2, h3⟩ := h
  refine ⟨by simp [h1], by omega, fun i hi => ?_⟩
  by_cases hj : i = l.length - 1 - k
  · subst hj
    rw [dg_of (by simp; omega), List.getElem_set_self, if_pos (by omega), h3 k (by omega), if_neg (by omega)]
    congr 1
    omega
  · rw [dg_set_ne (by omega)]
    by_cases hik : i = k
    · subst hik
      rw [dg_of (by simp; omega), List.getElem_set_self, if_pos (by omega), h3 _ (by omega), if_neg (by omega)]
    · rw [dg_set_ne (by omega), h3 i hi]
      by_cases hc : i < k ∨ l.length ≤ i + k
      · rw [if_pos hc, if_pos (by omega)]
      · rw [if_neg hc, if_neg (by omega)]

end Go.Proofs.Ytaafmafdnnjmdaa

namespace Go.Proofs.Ytaafmafdnnjmdaa
open Go.RowKit

/-- The text of bytes' numbers. -/
def txt (l : List Nat) : ByteArray := ⟨(l.map fun d => UInt8.ofNat d).toArray⟩

theorem NatS.lt_pow {w : World} {s : Sl} {x : Nat} (h : NatS w s x) : x < 4294967296 ^ s.n := by
  obtain ⟨l, h1, h2, h3, h4⟩ := h
  rw [← h4, h1.1]
  exact val_lt _ _ h2

theorem pow_ten (n : Nat) : 4294967296 ^ n ≤ 10 ^ (10 * n) := by
  rw [Nat.pow_mul]
  exact Nat.pow_le_pow_left (by omega) n

theorem by9 {w : World} {s : Sl} {y : Nat} (h : NatS w s y) (hn : s.n ≤ 1000000000000) :
    Calls Try.prog 125 #[.slice s.ao s.n s.c, .int .u32 1000000000] w fun e w' =>
      ∃ (t : Sl) (o : List Nat) (r : Nat), e = .returned (.tuple #[.slice t.ao t.n t.c, .int .u32 (r : Int)]) ∧ IntsAt w' 147 .u32 t o ∧ (∀ d ∈ o, d < 4294967296) ∧ t.n = s.n ∧ y = val 4294967296 o * 1000000000 + r ∧ r < 1000000000 ∧ Below w.heap.size w w' := by
  obtain ⟨l, h1, h2, h3, h4⟩ := h
  refine (by_walk s.ao s.n s.c l w 1000000000 h1 h2 (by omega) (by omega) hn).mono ?_
  rintro e w' ⟨t, o, r, rfl, g1, g2, g3, g4, g5, g6⟩
  exact ⟨t, o, r, rfl, g1, g2, by rw [g1.1, g3], by rw [← h4, g4, Nat.mul_comm], g5, g6⟩

theorem field_nat (ao : Option Addr) (n c : Nat) (w : World) : (Instr.field 44 (.agg #[.slice ao n c]) 0).run Try.prog w = .ok (.slice ao n c) w := by kernel_rfl

/-- All rows of limbs stay as they were. -/
def KpT (T : TypeId) (w w' : World) : Prop := ∀ (b : Nat) (cur : Array Value) (T' : TypeId) (f : Nat × Nat), T' ≠ T → w.heap[b]? = some (Obj.cells cur T' f) → w'.heap[b]? = some (Obj.cells cur T' f)

theorem NatS.kpu {w w' : World} {s : Sl} {x : Nat} (h : NatS w s x) (hk : KpT 5 w w') : NatS w' s x := by
  obtain ⟨l, ⟨h1, h2, h3, h4⟩, h5⟩ := h
  refine ⟨l, ⟨h1, h2, h3, fun hp => ?_⟩, h5⟩
  obtain ⟨b, off, cur, ha, hb, hr⟩ := h4 hp
  exact ⟨b, off, cur, ha, hk _ _ _ _ (by decide) hb, hr⟩

theorem wpList_pushK {t T : TypeId} {k : IntKind} {bytes : Nat} (hT : RowTy t T k bytes) (w0 : World) {ops : Array Oper} {rest : List Oper} {o : Oper} {a : Act} {Q : Exit → Act → World → Prop}
    (hg : o.guard = none) (s x : Operand) (hop : o.op = Op.call { callee := Callee.builtin Builtin.append, args := #[s, x], argTypes := #[t, t] })
    (base : Nat) (v : Value) (l : List Nat) (z : Int) (d : Nat) (hs : a.eval s = v) (hx : a.eval x = .slice (some ⟨w0.heap.size, 0, none⟩) 1 1)
    (hown : Own w0 base T k v l) (hz : z = (d : Int)) (hlen : (l.length + 1) * bytes ≤ 140737488355328) (hlm : l.length + 1 ≤ maxLen) (hbase : base ≤ w0.heap.size)
    (hK : ∀ v' w', Own w' base T k v' (l ++ [d]) → Below base w0 w' → KpT T w0 w' → wpList Try.prog ops Q rest (a.put o.dst v') w') :
    wpList Try.prog ops Q (o :: rest) a (w0.alloc (.cells #[.int k z] T)) := by
  obtain ⟨i0, hi, hz0, hz1, hz2⟩ := info_parts hT.inf
  refine wpList_append_own _ hg s x t hop base T i0 (.int k 0) 1 bytes hT.ut hi hz0 hz1 hz2 rfl (by decide) v l.length _ hs (hown.alloc _) ⟨w0.heap.size, 0, none⟩ 1 1 [.int k z] hx rfl (cell_one_new _ _ _) ?_ hlm hlen (by simp; omega) ?_
  · intro u hu
    simp at hu
    subst hu
    rfl
  · intro v' w' h1 h2 _
    refine hK v' w' ?_ ?_ ?_
    · unfold Own
      subst hz
      simpa using h1
    · exact ((Below.refl base w0).alloc hbase _).grown h2 (by simp; omega) (fun g hgv => (hown.lt g hgv).1)
    · intro b cur T' f hne hb
      have hb' := ent_old hb (.cells #[.int k z] T)
      have hlt := ent_lt hb'
      rw [h2.block b hlt ?_]
      · exact hb'
      · intro e
        obtain ⟨_, h4⟩ := hown
        rcases h4 with ⟨rfl, _⟩ | ⟨g, cap, cur', rfl, _, hg, _⟩
        · simp [Value.ownBlock] at e
        · simp [Value.ownBlock] at e
          subst e
          rw [hg] at hb
          simp at hb
          exact hne hb.2.1.symm

/-- What is written already, and what is still to come. -/
def TextAt (x z : Nat) (o : List Nat) : Prop := o ++ (dl z).map (· + 48) = (dl x).map (· + 48)

theorem TextAt.len {x z : Nat} {o : List Nat} (h : TextAt x z o) : o.length ≤ (dl x).length := by
  have := congrArg List.length h
  simp at this
  omega

theorem TextAt.step {x y i r : Nat} {o : List Nat} (h : TextAt x (y * 10 ^ (9 - i) + r) o) (hi : i < 9) (hr : r < 10 ^ (9 - i)) (hn : r ≠ 0 ∨ y ≠ 0) :
    TextAt x (y * 10 ^ (9 - (i + 1)) + r / 10) (o ++ [r % 10 + 48]) ∧ r / 10 < 10 ^ (9 - (i + 1)) := by
  obtain ⟨h1, h2⟩ := text_step hi hr hn
  refine ⟨?_, h2⟩
  unfold TextAt at *
  rw [h1] at h
  simpa using h

theorem TextAt.room {x z : Nat} {o : List Nat} (h : TextAt x z o) (hz : z ≠ 0) : o.length + 1 ≤ (dl x).length := by
  have := congrArg List.length h
  rw [dl_pos hz] at this
  simp at this
  omega

theorem dl_bound {w : World} {s : Sl} {x : Nat} (h : NatS w s x) : (dl x).length ≤ 10 * s.n :=
  dl_len _ _ (Nat.lt_of_lt_of_le h.lt_pow (pow_ten _))

/-- The outer loop. -/
def TextRel (w : World) (x N : Nat) (y : Nat) (ov lv : Value) (wr : World) : Prop := ∃ (t : Sl) (o : List Nat),
  lv = .slice t.ao t.n t.c ∧ NatS wr t y ∧ t.n ≤ N ∧ Own wr w.heap.size 5 .u8 ov o ∧ TextAt x y o ∧ Below w.heap.size w wr

/-- The inner loop. -/
def TextIn (w : World) (x Y : Nat) (t : Sl) (ov rv iv : Value) (wr : World) : Prop := ∃ (i r : Nat) (o : List Nat),
  iv = .int .i64 i ∧ rv = .int .u32 r ∧ i ≤ 9 ∧ r < 10 ^ (9 - i) ∧ r < 4294967296 ∧ NatS wr t Y ∧ Own wr w.heap.size 5 .u8 ov o ∧ TextAt x (Y * 10 ^ (9 - i) + r) o ∧ Below w.heap.size w wr

/-- Behind it. -/
def TextOut (w : World) (x Y : Nat) (t : Sl) (ov : Value) (wr : World) : Prop := ∃ o : List Nat,
  NatS wr t Y ∧ Own wr w.heap.size 5 .u8 ov o ∧ TextAt x Y o ∧ Below w.heap.size w wr

end Go.Proofs.Ytaafmafdnnjmdaa
