/- The reference: Text. -/
import Derived.Test.YtnjohlimjbmkgaaProg
import Derived.Test.YtnjohlimjbmkgaaRefB
import Derived.Test.YtnjohlimjbmkgaaNatR
import Derived.Lib.Strings
import Derived.Deep.DeepCutAuto
import Derived.Deep.CutBlock
import Derived.Deep.LoopGhost
namespace Go.Proofs.Ytnjohlimjbmkgaa
open Go.RowKit

theorem bs_append (s t : ByteArray) : bs (s ++ t) = bs s ++ bs t := by simp [bs]
theorem bs_drop (s : ByteArray) (a : Nat) : bs (s.extract a s.size) = (bs s).drop a := by
  unfold bs
  rw [Lib.extract_data, List.take_of_length_le (by simp), List.map_drop]
theorem bs_txt {l : List Nat} (h : ∀ d ∈ l, d < 256) : bs (txt l) = l := by
  unfold bs txt
  simp only [List.map_map]
  conv => rhs; rw [← List.map_id l]
  apply List.map_congr_left
  intro d hd
  have := h d hd
  simp
  omega
theorem txt_bs (s : ByteArray) : txt (bs s) = s := by
  obtain ⟨⟨l⟩⟩ := s
  simp only [bs, txt, List.map_map]
  have : (fun d => UInt8.ofNat d) ∘ (fun b : UInt8 => b.toNat) = id := by funext b; simp
  rw [this, List.map_id]
theorem eq_txt {s : ByteArray} {l : List Nat} (h : bs s = l) : s = txt l := by rw [← h, txt_bs]
theorem digs_lt {l : List Nat} (h : Digs l) : ∀ d ∈ l, d < 256 := fun d hd => by have := h d hd; omega

theorem conv_four {w : World} {b d : Nat} {a0 a1 a2 a3 : Int} (hd : d < 10000) (h0 : a0 = 48 + d / 1000) (h1 : a1 = 48 + d / 100 % 10) (h2 : a2 = 48 + d / 10 % 10) (h3 : a3 = 48 + d % 10)
    (hb : w.heap[b]? = some (.cells #[.int .u8 a0, .int .u8 a1, .int .u8 a2, .int .u8 a3] 5 (0, 0))) :
    (convert 76 9 (.slice (some ⟨b, 0, none⟩) 4 4)).run Try.prog w = .ok (.string (txt (four d))) w := by
  have := run_convert_bytes_back (P := Try.prog) w 76 9 5 ⟨b, 0, none⟩ 4 ((four d).map fun d => UInt8.ofNat d) Try.underlying76 Try.underlying5 Try.underlying9 ?_
  · simpa [txt, four] using this
  · intro j hj
    have hj' : j < 4 := by simpa [four] using hj
    have ha : (⟨b, 0, none⟩ : Addr).add j = ⟨b, j, none⟩ := by
      unfold Addr.add
      split
      · rename_i h0; subst h0; rfl
      · simp
    rw [ha, ent_cell hb]
    subst h0 h1 h2 h3
    rcases j with _ | _ | _ | _ | j
    · simp [four]; omega
    · simp [four]; omega
    · simp [four]; omega
    · simp [four]; omega
    · omega

/-- The digits so far, the highest first. -/
def RTextRel (n : Nat) (l : List Nat) (sv iv : Value) : Prop := ∃ (k : Nat) (S : ByteArray), iv = .int .i64 ((k : Int) - 1) ∧ sv = .string S ∧ k ≤ n ∧ S.size = 4 * (n - k) ∧ Digs (bs S) ∧ dval (bs S) = val 10000 (l.drop k)

/-- The zeros in front. -/
def RStripRel (x : Nat) (sv : Value) : Prop := ∃ S : ByteArray, sv = .string S ∧ Digs (bs S) ∧ dval (bs S) = x ∧ S.size ≤ 4000000000000

set_option maxHeartbeats 800000 in
theorem rtext_pos {w : World} {s : Sl} {x : Nat} (h : RefS w s x) (hn : s.n ≤ 1000000000000) (h0 : 0 < x) :
    Calls Try.prog 42 #[.agg #[.slice s.ao s.n s.c]] w fun e w' => e = .returned (.string (txt (dec x))) ∧ Below w.heap.size w w' := by
  have hsn : 0 < s.n := by have := h.zero_iff; omega
  obtain ⟨l, hi, hd, hnl, hv⟩ := h
  have hlen := Lib.hid hi.1
  obtain ⟨b, off, hao, hb, hcell⟩ := hi.open hsn
  have Hc := Lib.hid hcell; clear hcell
  have hnc : s.n ≤ s.c := hi.2.1
  have hcc : s.c ≤ 9223372036854775807 := hi.2.2.1
  have Hd := Lib.hid hd; clear hd
  have Hv := Lib.hid hv; clear hv
  obtain ⟨ao, n, c⟩ := s
  simp only at hao hn hsn hnc hcc
  subst hao
  have hlen : Hid (n = l.length) := hlen
  have Hc : Hid (∀ i, i < n → w.cell? ⟨b, off + i, none⟩ = some (.int .i64 ((dg l i : Nat) : Int))) := Hc
  have hE := ents1 w (.cells #[.slice (some ⟨b, off, none⟩) n c] 26)
  have hbx : Below w.heap.size w _ := (Below.refl w.heap.size w).alloc (Nat.le_refl _) (.cells #[.slice (some ⟨b, off, none⟩) n c] 26)
  have hA := ent_cell hE.1 0
  have hWs := ent_lt hE.1
  have hinit : RTextRel n l (.string ⟨#[]⟩) (.int .i64 ((n : Int) - 1)) := ⟨n, ⟨#[]⟩, rfl, rfl, Nat.le_refl _, by simp; rfl, by simpa [bs] using Digs.nil, by
    have := hlen.out
    simp [bs, dval, this, val]
    ⟩
  have hn0 : ((n : Int) == 0) = false := by simp; omega
  clear hE hnl
  generalize hW1 : (w.alloc (.cells #[.slice (some ⟨b, off, none⟩) n c] 26)) = W1 at *
  have HW := Lib.hid hW1; clear hW1
  go_enter Try.func42, Try.ntmps42
  go_wp2
  rw [HW.out]
  go_loopw [3, 4] (fun sv iv wr => RTextRel n l sv iv ∧ Below W1.heap.size W1 wr) (fun _ iv _ => (intOf iv + 1).toNat)
  case atStart => exact ⟨hinit, Below.refl _ _⟩
  case round =>
    clear hinit
    obtain ⟨⟨k, S, rfl, rfl, hk, hS, hSd, hSv⟩, hbl⟩ := hrel
    have HSv := Lib.hid hSv; clear hSv
    have HSs := Lib.hid hS; clear hS
    by_cases hk0 : 0 < k
    · obtain ⟨j, rfl⟩ : ∃ j, k = j + 1 := ⟨k - 1, by omega⟩
      have hA' := hbl.cell (p := ⟨w.heap.size, 0, none⟩) hWs
      rw [hA] at hA'
      have hck : wr.cell? ⟨b, off + j, none⟩ = some (.int .i64 ((dg l j : Nat) : Int)) := ((hbl.cell (p := ⟨b, off + j, none⟩) (Nat.lt_trans hb hWs)).trans (hbx.cell (p := ⟨b, off + j, none⟩) hb)).trans (Hc.out j (by omega))
      have hx : dg l j < 10000 := dg_lt Hd.out (by omega) j
      have hvs := val_drop_step (B := 10000) (l := l) (k := j) (by have := hlen.out; omega)
      generalize hxe : dg l j = d at *
      have hcv := conv_four (w := wr.alloc (.cells #[.int .u8 (48 + (d : Int) / 1000), .int .u8 (48 + (d : Int) / 100 % 10), .int .u8 (48 + (d : Int) / 10 % 10), .int .u8 (48 + (d : Int) % 10)] 5)) hx rfl rfl rfl rfl (ent_new wr _)
      have HX := Lib.hid hxe; clear hxe
      have hfs : (txt (four d)).size = 4 := by simp [txt, four]; rfl
      have hSz : S.size + 4 ≤ 9223372036854775807 := by have := HSs.out; omega
      have HVS := Lib.hid hvs; clear hvs
      go_wp2
      go_roundw
      case rel =>
        refine ⟨⟨j, S ++ txt (four d), rfl, rfl, by omega, ?_, ?_, ?_⟩, hbl.alloc (hbl.size) _⟩
        · rw [ByteArray.size_append, hfs]
          have := HSs.out
          omega
        · rw [bs_append, bs_txt (digs_lt (four_digs hx))]
          exact hSd.append (four_digs hx)
        · rw [bs_append, bs_txt (digs_lt (four_digs hx)), dval_cat4, HSv.out, HVS.out, Nat.add_comm]
      case measure => simp [intOf]
    · have hk0 : k = 0 := by omega
      subst hk0
      have hx : dval (bs S) = x := by
        rw [HSv.out, List.drop_zero]
        exact Hv.out
      have hS4 : S.size ≤ 4000000000000 := by have := HSs.out; omega
      have hstrip : RStripRel x (.string S) := ⟨S, rfl, hSd, hx, hS4⟩
      clear HSv HSs hSd hx hS4
      go_wp2
      go_loop [3] (fun sv => RStripRel x sv) (fun sv => match sv with | .string S => S.size | _ => 0)
      case atStart => exact hstrip
      case round =>
        clear hstrip
        obtain ⟨S, rfl, hSd, hx, hS4⟩ := hrel
        have hne : 0 < S.size := by
          have := List.length_pos_iff.2 (dval_ne (a := bs S) (by omega))
          rw [bs_size] at this
          exact this
        have hneI : (0 : Int) < (S.size : Int) := by omega
        have HX := Lib.hid hx; clear hx
        have hDg := bs_dg S 0 hne
        obtain ⟨D, hD⟩ : ∃ D : Nat, (S[0]'hne).toNat = D := ⟨_, rfl⟩
        rw [hD] at hDg
        have HDg := Lib.hid hDg; clear hDg
        by_cases h48 : D = 48
        · have hDI : ((D : Int) == 48) = true := by simp; omega
          have hst := dval_strip (a := bs S) (by rw [HDg.out]; exact h48)
          have HST := Lib.hid hst
          clear h48 hst
          have hsz : (S.extract 1 S.size).size < S.size := by simp; omega
          have HSZ := Lib.hid hsz; clear hsz
          go_wp2
          go_round
          case rel => exact ⟨S.extract 1 S.size, rfl, by rw [bs_drop]; exact hSd.drop 1, by rw [bs_drop, HST.out]; exact HX.out, Nat.le_trans (Nat.le_of_lt HSZ.out) hS4⟩
          case measure => exact HSZ.out
        · have hDI : ((D : Int) == 48) = false := by simp; omega
          have hend := dec_of_digs hSd (dval_ne (a := bs S) (by rw [HX.out]; omega)) (by rw [HDg.out]; exact h48)
          rw [HX.out] at hend
          have HEND := Lib.hid (eq_txt hend)
          clear hend h48
          go_wp2
          go_ret
          exact ⟨by rw [HEND.out]; rfl, hbx.trans (hbl.mono (Nat.le_of_lt hWs))⟩


theorem rtext_zero {w : World} {s : Sl} (h0 : s.n = 0) :
    Calls Try.prog 42 #[.agg #[.slice s.ao s.n s.c]] w fun e w' => e = .returned (.string (txt (dec 0))) ∧ Below w.heap.size w w' := by
  rw [h0]
  go_enter Try.func42, Try.ntmps42
  go_wp2
  go_ret
  exact ⟨rfl, (Below.refl _ _).alloc (Nat.le_refl _) _⟩

/-- The text of a number of the reference. -/
theorem rtext_spec {w : World} {s : Sl} {x : Nat} (h : RefS w s x) (hn : s.n ≤ 1000000000000) :
    Calls Try.prog 42 #[.agg #[.slice s.ao s.n s.c]] w fun e w' => e = .returned (.string (txt (dec x))) ∧ Below w.heap.size w w' := by
  by_cases hx : 0 < x
  · exact rtext_pos h hn hx
  · obtain rfl : x = 0 := by omega
    exact rtext_zero (h.zero_iff.1 rfl)

end Go.Proofs.Ytnjohlimjbmkgaa
