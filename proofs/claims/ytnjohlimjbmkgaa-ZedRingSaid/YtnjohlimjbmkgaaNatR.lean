/- nat: Text. -/
import Derived.Test.YtnjohlimjbmkgaaProg
import Derived.Test.YtnjohlimjbmkgaaNatA
import Derived.Test.YtnjohlimjbmkgaaNatC
import Derived.Test.YtnjohlimjbmkgaaNatQ
import Derived.Test.YtnjohlimjbmkgaaMathT
import Derived.Laws.IdiomStrings
import Derived.Deep.DeepCutAuto
import Derived.Deep.LoopGhost
import Derived.Deep.CutBlock
namespace Go.Proofs.Ytnjohlimjbmkgaa
open Go.RowKit

/-- The text of bytes' numbers. -/
def txt (l : List Nat) : ByteArray := ⟨(l.map fun d => UInt8.ofNat d).toArray⟩

theorem conv_bytes {w : World} {base g n c : Nat} {l : List Nat} (h : Own w base 5 .u8 (.slice (some ⟨g, 0, none⟩) n c) l) (hn : n = l.length) (hd : ∀ d ∈ l, d < 256) :
    (convert 76 9 (.slice (some ⟨g, 0, none⟩) n c)).run Try.prog w = .ok (.string (txt l)) w := by
  subst hn
  have := run_convert_bytes_back (P := Try.prog) w 76 9 5 ⟨g, 0, none⟩ c (l.map fun d => UInt8.ofNat d) Try.underlying76 Try.underlying5 Try.underlying9 ?_
  · simpa [txt] using this
  · intro j hj
    have hj' : j < l.length := by simpa using hj
    have h1 := (h.slot j hj').1
    rw [dg_of hj'] at h1
    have : l[j] < 256 := hd _ (List.getElem_mem hj')
    have ha : (⟨g, 0, none⟩ : Addr).add j = ⟨g, j, none⟩ := by
      unfold Addr.add
      split
      · rename_i h0; subst h0; rfl
      · simp
    rw [ha, h1]
    simp
    omega

theorem NatS.lt_pow {w : World} {s : Sl} {x : Nat} (h : NatS w s x) : x < 4294967296 ^ s.n := by
  obtain ⟨l, h1, h2, h3, h4⟩ := h
  rw [← h4, h1.1]
  exact val_lt _ _ h2

theorem pow_ten (n : Nat) : 4294967296 ^ n ≤ 10 ^ (10 * n) := by
  rw [Nat.pow_mul]
  exact Nat.pow_le_pow_left (by omega) n

theorem by9 {w : World} {s : Sl} {y : Nat} (h : NatS w s y) (hn : s.n ≤ 1000000000000) :
    Calls Try.prog 80 #[.slice s.ao s.n s.c, .int .u32 1000000000] w fun e w' =>
      ∃ (t : Sl) (o : List Nat) (r : Nat), e = .returned (.tuple #[.slice t.ao t.n t.c, .int .u32 (r : Int)]) ∧ IntsAt w' 113 .u32 t o ∧ (∀ d ∈ o, d < 4294967296) ∧ t.n = s.n ∧ y = val 4294967296 o * 1000000000 + r ∧ r < 1000000000 ∧ Below w.heap.size w w' := by
  obtain ⟨l, h1, h2, h3, h4⟩ := h
  refine (by_walk s.ao s.n s.c l w 1000000000 h1 h2 (by omega) (by omega) hn).mono ?_
  rintro e w' ⟨t, o, r, rfl, g1, g2, g3, g4, g5, g6⟩
  exact ⟨t, o, r, rfl, g1, g2, by rw [g1.1, g3], by rw [← h4, g4, Nat.mul_comm], g5, g6⟩

theorem field_nat (ao : Option Addr) (n c : Nat) (w : World) : (Instr.field 31 (.agg #[.slice ao n c]) 0).run Try.prog w = .ok (.slice ao n c) w := by kernel_rfl

/-- All rows of limbs stay as they were. -/
def KpT (T : TypeId) (w w' : World) : Prop := ∀ (b : Nat) (cur : Array Value) (T' : TypeId) (f : Nat × Nat), T' ≠ T → w.heap[b]? = some (Obj.cells cur T' f) → w'.heap[b]? = some (Obj.cells cur T' f)

theorem NatS.kpu {w w' : World} {s : Sl} {x : Nat} (h : NatS w s x) (hk : KpT 5 w w') : NatS w' s x := by
  obtain ⟨l, ⟨h1, h2, h3, h4⟩, h5⟩ := h
  refine ⟨l, ⟨h1, h2, h3, fun hp => ?_⟩, h5⟩
  obtain ⟨b, off, cur, ha, hb, hr⟩ := h4 hp
  exact ⟨b, off, cur, ha, hk _ _ _ _ (by decide) hb, hr⟩

theorem wpList_pushK {t T : TypeId} {k : IntKind} {bytes : Nat} (hT : RowTy t T k bytes) (w0 : World) {ops : Array Oper} {rest : List Oper} {o : Oper} {a : Act} {Q : Exit → Act → World → Prop}
    (hg : o.guard = none) (s x : Operand) (hop : o.op = Op.call { callee := Callee.builtin Builtin.append, args := #[s, x], argTypes := #[t, t] })
    (base : Nat) (v : Value) (l : List Nat) (z : Int) (d : Nat) (hs : a.eval s = v) (hx : a.eval x = .slice (some ⟨w0.heap.size, 0, none⟩) 1 1)
    (hown : Own w0 base T k v l) (hz : z = (d : Int)) (hlen : (l.length + 1) * bytes ≤ 140737488355328) (hlm : l.length + 1 ≤ maxLen) (hbase : base ≤ w0.heap.size)
    (hK : ∀ v' w', Own w' base T k v' (l ++ [d]) → Below base w0 w' → KpT T w0 w' → wpList Try.prog ops Q rest (a.put o.dst v') w') :
    wpList Try.prog ops Q (o :: rest) a (w0.alloc (.cells #[.int k z] T)) := by
  obtain ⟨i0, hi, hz0, hz1, hz2⟩ := info_parts hT.inf
  refine wpList_append_own _ hg s x t hop base T i0 (.int k 0) 1 bytes hT.ut hi hz0 hz1 hz2 rfl (by decide) v l.length _ hs (hown.alloc _) ⟨w0.heap.size, 0, none⟩ 1 1 [.int k z] hx rfl (cell_one_new _ _ _) ?_ hlm hlen (by simp; omega) ?_
  · intro u hu
    simp at hu
    subst hu
    rfl
  · intro v' w' h1 h2 _
    refine hK v' w' ?_ ?_ ?_
    · unfold Own
      subst hz
      simpa using h1
    · exact ((Below.refl base w0).alloc hbase _).grown h2 (by simp; omega) (fun g hgv => (hown.lt g hgv).1)
    · intro b cur T' f hne hb
      have hb' := ent_old hb (.cells #[.int k z] T)
      have hlt := ent_lt hb'
      rw [h2.block b hlt ?_]
      · exact hb'
      · intro e
        obtain ⟨_, h4⟩ := hown
        rcases h4 with ⟨rfl, _⟩ | ⟨g, cap, cur', rfl, _, hg, _⟩
        · simp [Value.ownBlock] at e
        · simp [Value.ownBlock] at e
          subst e
          rw [hg] at hb
          simp at hb
          exact hne hb.2.1.symm

/-- What is written already, and what is still to come. -/
def TextAt (x z : Nat) (o : List Nat) : Prop := o ++ (dl z).map (· + 48) = (dl x).map (· + 48)

theorem TextAt.len {x z : Nat} {o : List Nat} (h : TextAt x z o) : o.length ≤ (dl x).length := by
  have := congrArg List.length h
  simp at this
  omega

theorem TextAt.step {x y i r : Nat} {o : List Nat} (h : TextAt x (y * 10 ^ (9 - i) + r) o) (hi : i < 9) (hr : r < 10 ^ (9 - i)) (hn : r ≠ 0 ∨ y ≠ 0) :
    TextAt x (y * 10 ^ (9 - (i + 1)) + r / 10) (o ++ [r % 10 + 48]) ∧ r / 10 < 10 ^ (9 - (i + 1)) := by
  obtain ⟨h1, h2⟩ := text_step hi hr hn
  refine ⟨?_, h2⟩
  unfold TextAt at *
  rw [h1] at h
  simpa using h

theorem TextAt.room {x z : Nat} {o : List Nat} (h : TextAt x z o) (hz : z ≠ 0) : o.length + 1 ≤ (dl x).length := by
  have := congrArg List.length h
  rw [dl_pos hz] at this
  simp at this
  omega

theorem dl_bound {w : World} {s : Sl} {x : Nat} (h : NatS w s x) : (dl x).length ≤ 10 * s.n :=
  dl_len _ _ (Nat.lt_of_lt_of_le h.lt_pow (pow_ten _))

/-- The outer loop. -/
def TextRel (w : World) (x N : Nat) (y : Nat) (ov lv : Value) (wr : World) : Prop := ∃ (t : Sl) (o : List Nat),
  lv = .slice t.ao t.n t.c ∧ NatS wr t y ∧ t.n ≤ N ∧ Own wr w.heap.size 5 .u8 ov o ∧ TextAt x y o ∧ Below w.heap.size w wr

/-- The inner loop. -/
def TextIn (w : World) (x Y : Nat) (t : Sl) (ov rv iv : Value) (wr : World) : Prop := ∃ (i r : Nat) (o : List Nat),
  iv = .int .i64 i ∧ rv = .int .u32 r ∧ i ≤ 9 ∧ r < 10 ^ (9 - i) ∧ r < 4294967296 ∧ NatS wr t Y ∧ Own wr w.heap.size 5 .u8 ov o ∧ TextAt x (Y * 10 ^ (9 - i) + r) o ∧ Below w.heap.size w wr

/-- Behind it. -/
def TextOut (w : World) (x Y : Nat) (t : Sl) (ov : Value) (wr : World) : Prop := ∃ o : List Nat,
  NatS wr t Y ∧ Own wr w.heap.size 5 .u8 ov o ∧ TextAt x Y o ∧ Below w.heap.size w wr

set_option maxHeartbeats 800000 in
theorem text_pos {w : World} {s : Sl} {x : Nat} (h : NatS w s x) (hn : s.n ≤ 1000000000000) (h0 : 0 < x) :
    Calls Try.prog 41 #[.agg #[.slice s.ao s.n s.c]] w fun e w' => e = .returned (.string (txt (dec x))) ∧ Below w.heap.size w w' := by
  have hsn : 0 < s.n := by have := h.zero_iff; omega
  have hlen := dl_bound h
  have hinit : TextRel w x s.n x (.slice none 0 0) (.slice s.ao s.n s.c) (w.alloc (.cells #[.slice s.ao s.n s.c] 31)) :=
    ⟨s, [], rfl, h.up ((Below.refl _ _).alloc (Nat.le_refl _) _), Nat.le_refl _, Own.nil _ _ _ _, by simp [TextAt], (Below.refl _ _).alloc (Nat.le_refl _) _⟩
  generalize hNN : s.n = N at *
  have hN0 : ((N : Int) == 0) = false := by simp; omega
  go_enter Try.func41, Try.ntmps41
  go_wp2
  go_loopg [3, 4] x (fun k ov lv wr => TextRel w x N k ov lv wr)
  case atStart => exact hinit
  case round =>
    obtain ⟨t, o, rfl, ht, htn, hown, hat, hbl⟩ := hrel
    by_cases hp : 0 < t.n
    · have hk0 : 0 < gk := by have := ht.zero_iff; omega
      go_wp2_with fail
      refine (by9 ht (by omega)).mono ?_
      rintro e w1 ⟨q, qo, r, rfl, hq, hqo, hqn, hqe, hr, hb1⟩
      have HQE := Lib.hid hqe; clear hqe
      have HQN := Lib.hid hqn; clear hqn
      go_wp2_with fail
      refine (cut_spec hq hqo).mono ?_
      rintro e w2 ⟨v, rfl, hv, hvn, hb2⟩
      have hfd := fun w => field_nat v.ao v.n v.c w
      go_upto_block 2 with fail
      clear hfd
      have hvN : v.n ≤ N := by have := HQN.out; omega
      obtain ⟨Y, hY⟩ : ∃ Y, Y = val 4294967296 qo := ⟨_, rfl⟩
      rw [← hY] at hv
      have hb12 := hb1.trans (hb2.mono hb1.size)
      have hin : TextIn w x Y v u3 (.int .u32 r) (.int .i64 0) w2 := by
        refine ⟨0, r, o, rfl, rfl, by omega, hr, by omega, hv, hown.below hb12 (Nat.le_refl _), ?_, hbl.trans (hb12.mono hbl.size)⟩
        have := HQE.out
        rw [← hY] at this
        rw [show 10 ^ (9 - 0) = 1000000000 by rfl, ← this]
        exact hat
      have hYlt : Y < gk := by have := HQE.out; omega
      clear hY HQE HQN hq hqo hb1 hb2 hb12 hown hat hbl hr ht htn
      · go_wp2_with fail
        go_loopw [3, 6, 24] (fun ov rv iv wr => TextIn w x Y v ov rv iv wr) (fun _ _ iv _ => (9 - intOf iv).toNat)
        case atStart => exact hin
        case round =>
          clear hin
          obtain ⟨i, r, o, rfl, rfl, hi, hr, hr4, hv, hown, hat, hbl⟩ := hrel
          by_cases hi9 : i < 9
          · have hi9I : (i : Int) < 9 := by omega
            by_cases hz : r = 0 ∧ Y = 0
            · obtain ⟨hz1, hz2⟩ := hz
              have hrI : ((r : Int) == 0) = true := by rw [hz1]; rfl
              have hvn0 : v.n = 0 := by have := hv.zero_iff; omega
              have hat' : TextAt x Y o := by
                rw [hz2, hz1] at hat
                rw [hz2]
                simpa using hat
              have HV := Lib.hid hvn0
              have hvI : ((v.n : Int) == 0) = true := by simp; omega
              clear hvn0 hz1 hz2 hat hr
              go_wp2
              go_roundg Y
              case measure => exact hYlt
              case rel => exact ⟨v, o, rfl, hv, hvN, hown, hat', hbl⟩
            · have hne : r ≠ 0 ∨ Y ≠ 0 := by omega
              have hst := hat.step hi9 hr hne
              have hroom := hat.room (by
                have := Nat.pow_pos (n := 9 - i) (show 0 < 10 by omega)
                rcases hne with h | h
                · omega
                · have := Nat.mul_pos (Nat.pos_of_ne_zero h) this
                  omega)
              have hY0 : v.n = 0 ↔ Y = 0 := hv.zero_iff.symm
              by_cases hr0 : r = 0
              · have hrI : ((r : Int) == 0) = true := by simp; omega
                have hvI : ((v.n : Int) == 0) = false := by simp; omega
                clear hat hr hz hne hY0 hr0
                have hmod : IntKind.u8.wrap (48 + (r : Int) % 10) = ((r % 10 + 48 : Nat) : Int) := by
                  rw [IntWalk.u8_in _ (by omega)]; omega
                go_wp2_with (at_builtin; refine wpList_pushK rowByte _ rfl _ _ rfl w.heap.size u3 o _ (r % 10 + 48) rfl rfl hown ?hza ?hla ?hma ?hba ?_)
                case hza => first | rfl | exact hmod | omega
                case hla => omega
                case hma => unfold maxLen; omega
                case hba => exact hbl.size
                intro v' w' hown' hb' hk'
                have hv' := hv.kpu hk'
                clear hmod
                go_wp2
                go_roundw
                case rel => exact ⟨i + 1, r / 10, o ++ [r % 10 + 48], by go_num, by go_num, by omega, hst.2, by omega, hv', hown', hst.1, hbl.trans hb'⟩
                case measure => simp [intOf]; omega
              · have hrI : ((r : Int) == 0) = false := by simp; omega
                clear hat hr hz hne hY0 hr0
                have hmod : IntKind.u8.wrap (48 + (r : Int) % 10) = ((r % 10 + 48 : Nat) : Int) := by
                  rw [IntWalk.u8_in _ (by omega)]; omega
                go_wp2_with (at_builtin; refine wpList_pushK rowByte _ rfl _ _ rfl w.heap.size u3 o _ (r % 10 + 48) rfl rfl hown ?hzb ?hlb ?hmb ?hbb ?_)
                case hzb => first | rfl | exact hmod | omega
                case hlb => omega
                case hmb => unfold maxLen; omega
                case hbb => exact hbl.size
                intro v' w' hown' hb' hk'
                have hv' := hv.kpu hk'
                clear hmod
                go_wp2
                go_roundw
                case rel => exact ⟨i + 1, r / 10, o ++ [r % 10 + 48], by go_num, by go_num, by omega, hst.2, by omega, hv', hown', hst.1, hbl.trans hb'⟩
                case measure => simp [intOf]; omega
          · have hi9 : i = 9 := by omega
            have hr0 : r = 0 := by
              rw [hi9] at hr
              simpa using hr
            have hat' : TextAt x Y o := by
              rw [hr0, hi9] at hat
              simpa using hat
            have hi9I : decide ((i : Int) < 9) = false := by simp; omega
            clear hat hr hr0 hi9
            go_wp2
            go_roundg Y
            case measure => exact hYlt
            case rel => exact ⟨v, o, rfl, hv, hvN, hown, hat', hbl⟩
    · have hk0 : gk = 0 := by have := ht.zero_iff; omega
      subst hk0
      have ho : o = (dl x).map (· + 48) := by
        have := hat
        unfold TextAt at this
        rw [dl_zero] at this
        simpa using this
      have hpI : decide (0 < t.n) = false := by simp; omega
      have hdec : dec x = o.reverse := by rw [ho]; unfold dec; rw [if_neg (by omega)]
      have hox : ∀ d ∈ o.reverse, d < 256 := by rw [← hdec]; exact dec_lt x
      have hol : o.length ≤ 1000000000000000 := by rw [ho]; simp; omega
      have hone : o ≠ [] := by rw [ho]; simpa using dl_ne (by omega)
      obtain ⟨g, c, rfl, hgc⟩ : ∃ g c, u3 = .slice (some ⟨g, 0, none⟩) o.length c ∧ o.length ≤ c := by
        obtain ⟨_, h4⟩ := hown
        rcases h4 with ⟨rfl, h4⟩ | ⟨g, cap, cur', rfl, _, hg, hc, _⟩
        · exact absurd (List.eq_nil_of_length_eq_zero h4) hone
        · exact ⟨g, cap, rfl, hc⟩
      have HD := Lib.hid hdec
      have HO := Lib.hid ho
      clear hdec ho hat hone
      go_wp2_with (go_at_call 82; refine (reverse_spec hown rfl hol).mono ?_; rintro e w1 ⟨⟨v, rfl⟩, hown1, hb1⟩; have hcv := conv_bytes hown1 (by simp) hox)
      go_ret
      exact ⟨by rw [HD.out]; rfl, hbl.trans hb1⟩

theorem text_zero {w : World} {s : Sl} (h0 : s.n = 0) :
    Calls Try.prog 41 #[.agg #[.slice s.ao s.n s.c]] w fun e w' => e = .returned (.string (txt (dec 0))) ∧ Below w.heap.size w w' := by
  rw [h0]
  go_enter Try.func41, Try.ntmps41
  go_wp2
  go_ret
  exact ⟨rfl, (Below.refl _ _).alloc (Nat.le_refl _) _⟩

/-- The text of a number. -/
theorem text_spec {w : World} {s : Sl} {x : Nat} (h : NatS w s x) (hn : s.n ≤ 1000000000000) :
    Calls Try.prog 41 #[.agg #[.slice s.ao s.n s.c]] w fun e w' => e = .returned (.string (txt (dec x))) ∧ Below w.heap.size w w' := by
  by_cases hx : 0 < x
  · exact text_pos h hn hx
  · obtain rfl : x = 0 := by omega
    exact text_zero (h.zero_iff.1 rfl)

end Go.Proofs.Ytnjohlimjbmkgaa
